/- What the program's functions compute, and that they compute it: printed out of the translation by a program of this session's (px.py, over the kit's printer). Conditions: none. -/
import Derived.Test.YtdlkpejlkijgcaaPr0
import Derived.Test.YtdlkpejlkijgcaaPr1
import Derived.Test.YtdlkpejlkijgcaaPr7
import Derived.Test.YtdlkpejlkijgcaaHandShown
namespace Go.Proofs.Ytdlkpejlkijgcaa.Pr
open Go.RowKit Go.Proofs.YtdlkpejlkijgcaaW.PrintWords Go.Proofs.YtdlkpejlkijgcaaW.PrintLast Go.Proofs.YtdlkpejlkijgcaaW.PrintMore
attribute [local go_sem] max2_int min2_int max_two min_two max_three min_three max_four min_four   -- for this text's walks alone
set_option linter.unusedVariables false
set_option linter.unusedSimpArgs false

attribute [local go_sem high] eqA34
/-! ### ferrulelaw14_CoordCommits: function 5 -/
mutual
def ferrulelaw14_CoordCommits.l0 : Nat → List (S38) → Bool → Bool → Int → Int → Int → Int → List (S42) → Option (Bool)
  | 0, _, _, _, _, _, _, _, _ => none
  | k + 1, x0, x5, x7, x8, x9, x277000, x277001, x279000 => if x9 < (x0.length : Int) then (if 0 ≤ x9 then ((coord_Do.f k x279000 ((rd_T38 x0 x9).f0) ((rd_T38 x0 x9).f1.f0) ((rd_T38 x0 x9).f1.f1) ((rd_T38 x0 x9).f2) ((rd_T38 x0 x9).f3) ((rd_T38 x0 x9).f4) ((rd_T38 x0 x9).f5)).bind fun bt280 => (if (!(((rd_T38 x0 x9).f1.f0) == x277000) || (!(((rd_T38 x0 x9).f1.f1) == x277001))) = true then (ferrulelaw14_CoordCommits.j1 k x0 x5 x7 x8 x9 true x277000 x277001 bt280.1 bt280.2.1 bt280.2.2.1 bt280.2.2.2.1 bt280.2.2.2.2.1 bt280.2.2.2.2.2) else (ferrulelaw14_CoordCommits.j1 k x0 x5 x7 x8 x9 (bt280.2.1 != 0) x277000 x277001 bt280.1 bt280.2.1 bt280.2.2.1 bt280.2.2.2.1 bt280.2.2.2.2.1 bt280.2.2.2.2.2))) else (none)) else (some x5)
def ferrulelaw14_CoordCommits.j1 : Nat → List (S38) → Bool → Bool → Int → Int → Bool → Int → Int → List (S42) → Int → ByteArray → Int → Bool → Bool → Option (Bool)
  | 0, _, _, _, _, _, _, _, _, _, _, _, _, _, _ => none
  | k + 1, x0, x5, x7, x8, x9, x41, x277000, x277001, x279000, x290000, x290001, x290002, x290003, x290004 => if x41 = true then (ferrulelaw14_CoordCommits.l0 k x0 x5 x7 x8 (wrap64 (x9 + 1)) x277000 x277001 x279000) else (if 0 ≤ x9 then (if x9 < (x0.length : Int) then (if ((rd_T38 x0 x9).f0) = 5 then (ferrulelaw14_CoordCommits.l0 k x0 x5 true x8 (wrap64 (x9 + 1)) x277000 x277001 x279000) else (if ((rd_T38 x0 x9).f0) = 6 then (ferrulelaw14_CoordCommits.j2 k x0 x5 x7 x8 x9 (((rd_T38 x0 x9).f0) == 6) x277000 x277001 x279000 x290000 x290001 x290002 x290003 x290004) else (ferrulelaw14_CoordCommits.j2 k x0 x5 x7 x8 x9 (((rd_T38 x0 x9).f0) == 7) x277000 x277001 x279000 x290000 x290001 x290002 x290003 x290004))) else (none)) else (none))
def ferrulelaw14_CoordCommits.j2 : Nat → List (S38) → Bool → Bool → Int → Int → Bool → Int → Int → List (S42) → Int → ByteArray → Int → Bool → Bool → Option (Bool)
  | 0, _, _, _, _, _, _, _, _, _, _, _, _, _, _ => none
  | k + 1, x0, x5, x7, x8, x9, x49, x277000, x277001, x279000, x290000, x290001, x290002, x290003, x290004 => if x49 = true then (if x8 = 0 then (if 0 ≤ x9 then (if x9 < (x0.length : Int) then (if ((rd_T38 x0 x9).f0) = 6 then (ferrulelaw14_CoordCommits.j3 k x0 x5 x7 1 x9 ((rd_T38 x0 x9).f4) x277000 x277001 x279000 x290000 x290001 x290002 x290003 x290004) else (ferrulelaw14_CoordCommits.j3 k x0 x5 x7 1 x9 false x277000 x277001 x279000 x290000 x290001 x290002 x290003 x290004)) else (none)) else (none)) else (if (x290004 != (x8 == 2)) = true then (some false) else (if x290004 = true then (if x7 = true then (ferrulelaw14_CoordCommits.l0 k x0 x5 x7 x8 (wrap64 (x9 + 1)) x277000 x277001 x279000) else (some false)) else (ferrulelaw14_CoordCommits.l0 k x0 x5 x7 x8 (wrap64 (x9 + 1)) x277000 x277001 x279000)))) else (ferrulelaw14_CoordCommits.l0 k x0 x5 x7 x8 (wrap64 (x9 + 1)) x277000 x277001 x279000)
def ferrulelaw14_CoordCommits.j3 : Nat → List (S38) → Bool → Bool → Int → Int → Bool → Int → Int → List (S42) → Int → ByteArray → Int → Bool → Bool → Option (Bool)
  | 0, _, _, _, _, _, _, _, _, _, _, _, _, _, _ => none
  | k + 1, x0, x5, x7, x8, x9, x66, x277000, x277001, x279000, x290000, x290001, x290002, x290003, x290004 => if x66 = true then (if (x290004 != (2 == 2)) = true then (some false) else (if x290004 = true then (if x7 = true then (ferrulelaw14_CoordCommits.l0 k x0 x5 x7 2 (wrap64 (x9 + 1)) x277000 x277001 x279000) else (some false)) else (ferrulelaw14_CoordCommits.l0 k x0 x5 x7 2 (wrap64 (x9 + 1)) x277000 x277001 x279000))) else (if (x290004 != (x8 == 2)) = true then (some false) else (if x290004 = true then (if x7 = true then (ferrulelaw14_CoordCommits.l0 k x0 x5 x7 x8 (wrap64 (x9 + 1)) x277000 x277001 x279000) else (some false)) else (ferrulelaw14_CoordCommits.l0 k x0 x5 x7 x8 (wrap64 (x9 + 1)) x277000 x277001 x279000)))
end
def ferrulelaw14_CoordCommits.f (k : Nat) (l0 : List (S38)) (a1_0 : Int) (a1_1 : Int) : Option (Bool) := (ferrulelaw14_shown.f).bind fun t277 => (ferrulelaw14_CoordCommits.l0 k l0 t277 false 0 0 a1_0 a1_1 ([] : List (S42)))
theorem ferrulelaw14_CoordCommits.mono_l : ∀ k, (∀ y0 y1 y2 y3 y4 y5 y6 y7, LeO (ferrulelaw14_CoordCommits.l0 k y0 y1 y2 y3 y4 y5 y6 y7) (ferrulelaw14_CoordCommits.l0 (k + 1) y0 y1 y2 y3 y4 y5 y6 y7)) ∧ (∀ y0 y1 y2 y3 y4 y5 y6 y7 y8 y9 y10 y11 y12 y13, LeO (ferrulelaw14_CoordCommits.j1 k y0 y1 y2 y3 y4 y5 y6 y7 y8 y9 y10 y11 y12 y13) (ferrulelaw14_CoordCommits.j1 (k + 1) y0 y1 y2 y3 y4 y5 y6 y7 y8 y9 y10 y11 y12 y13)) ∧ (∀ y0 y1 y2 y3 y4 y5 y6 y7 y8 y9 y10 y11 y12 y13, LeO (ferrulelaw14_CoordCommits.j2 k y0 y1 y2 y3 y4 y5 y6 y7 y8 y9 y10 y11 y12 y13) (ferrulelaw14_CoordCommits.j2 (k + 1) y0 y1 y2 y3 y4 y5 y6 y7 y8 y9 y10 y11 y12 y13)) ∧ (∀ y0 y1 y2 y3 y4 y5 y6 y7 y8 y9 y10 y11 y12 y13, LeO (ferrulelaw14_CoordCommits.j3 k y0 y1 y2 y3 y4 y5 y6 y7 y8 y9 y10 y11 y12 y13) (ferrulelaw14_CoordCommits.j3 (k + 1) y0 y1 y2 y3 y4 y5 y6 y7 y8 y9 y10 y11 y12 y13))
  | 0 => ⟨fun _ _ _ _ _ _ _ _ r h => by simp [ferrulelaw14_CoordCommits.l0] at h, fun _ _ _ _ _ _ _ _ _ _ _ _ _ _ r h => by simp [ferrulelaw14_CoordCommits.j1] at h, fun _ _ _ _ _ _ _ _ _ _ _ _ _ _ r h => by simp [ferrulelaw14_CoordCommits.j2] at h, fun _ _ _ _ _ _ _ _ _ _ _ _ _ _ r h => by simp [ferrulelaw14_CoordCommits.j3] at h⟩
  | k + 1 => by
    obtain ⟨ih0, ih1, ih2, ih3⟩ := ferrulelaw14_CoordCommits.mono_l k
    refine ⟨?_, ?_, ?_, ?_⟩
    · intro y0 y1 y2 y3 y4 y5 y6 y7
      unfold ferrulelaw14_CoordCommits.l0
      repeat' first
      | (with_reducible exact ih0 _ _ _ _ _ _ _ _)
      | (with_reducible exact ih1 _ _ _ _ _ _ _ _ _ _ _ _ _ _)
      | (with_reducible exact ih2 _ _ _ _ _ _ _ _ _ _ _ _ _ _)
      | (with_reducible exact ih3 _ _ _ _ _ _ _ _ _ _ _ _ _ _)
      | (with_reducible exact coord_Do.mono _ _ _ _ _ _ _ _ _)
      | (with_reducible exact LeO.refl _)
      | (with_reducible exact LeO.none _)
      | (with_reducible refine LeO.ite ?_ ?_)
      | (with_reducible refine LeO.bind ?_ (fun _ => ?_))
      | exact ih0 _ _ _ _ _ _ _ _
      | exact ih1 _ _ _ _ _ _ _ _ _ _ _ _ _ _
      | exact ih2 _ _ _ _ _ _ _ _ _ _ _ _ _ _
      | exact ih3 _ _ _ _ _ _ _ _ _ _ _ _ _ _
      | exact coord_Do.mono _ _ _ _ _ _ _ _ _
      | exact LeO.none _
      | refine LeO.ite ?_ ?_
      | refine LeO.bind ?_ (fun _ => ?_)
    · intro y0 y1 y2 y3 y4 y5 y6 y7 y8 y9 y10 y11 y12 y13
      unfold ferrulelaw14_CoordCommits.j1
      repeat' first
      | (with_reducible exact ih0 _ _ _ _ _ _ _ _)
      | (with_reducible exact ih1 _ _ _ _ _ _ _ _ _ _ _ _ _ _)
      | (with_reducible exact ih2 _ _ _ _ _ _ _ _ _ _ _ _ _ _)
      | (with_reducible exact ih3 _ _ _ _ _ _ _ _ _ _ _ _ _ _)
      | (with_reducible exact coord_Do.mono _ _ _ _ _ _ _ _ _)
      | (with_reducible exact LeO.refl _)
      | (with_reducible exact LeO.none _)
      | (with_reducible refine LeO.ite ?_ ?_)
      | (with_reducible refine LeO.bind ?_ (fun _ => ?_))
      | exact ih0 _ _ _ _ _ _ _ _
      | exact ih1 _ _ _ _ _ _ _ _ _ _ _ _ _ _
      | exact ih2 _ _ _ _ _ _ _ _ _ _ _ _ _ _
      | exact ih3 _ _ _ _ _ _ _ _ _ _ _ _ _ _
      | exact coord_Do.mono _ _ _ _ _ _ _ _ _
      | exact LeO.none _
      | refine LeO.ite ?_ ?_
      | refine LeO.bind ?_ (fun _ => ?_)
    · intro y0 y1 y2 y3 y4 y5 y6 y7 y8 y9 y10 y11 y12 y13
      unfold ferrulelaw14_CoordCommits.j2
      repeat' first
      | (with_reducible exact ih0 _ _ _ _ _ _ _ _)
      | (with_reducible exact ih1 _ _ _ _ _ _ _ _ _ _ _ _ _ _)
      | (with_reducible exact ih2 _ _ _ _ _ _ _ _ _ _ _ _ _ _)
      | (with_reducible exact ih3 _ _ _ _ _ _ _ _ _ _ _ _ _ _)
      | (with_reducible exact coord_Do.mono _ _ _ _ _ _ _ _ _)
      | (with_reducible exact LeO.refl _)
      | (with_reducible exact LeO.none _)
      | (with_reducible refine LeO.ite ?_ ?_)
      | (with_reducible refine LeO.bind ?_ (fun _ => ?_))
      | exact ih0 _ _ _ _ _ _ _ _
      | exact ih1 _ _ _ _ _ _ _ _ _ _ _ _ _ _
      | exact ih2 _ _ _ _ _ _ _ _ _ _ _ _ _ _
      | exact ih3 _ _ _ _ _ _ _ _ _ _ _ _ _ _
      | exact coord_Do.mono _ _ _ _ _ _ _ _ _
      | exact LeO.none _
      | refine LeO.ite ?_ ?_
      | refine LeO.bind ?_ (fun _ => ?_)
    · intro y0 y1 y2 y3 y4 y5 y6 y7 y8 y9 y10 y11 y12 y13
      unfold ferrulelaw14_CoordCommits.j3
      repeat' first
      | (with_reducible exact ih0 _ _ _ _ _ _ _ _)
      | (with_reducible exact ih1 _ _ _ _ _ _ _ _ _ _ _ _ _ _)
      | (with_reducible exact ih2 _ _ _ _ _ _ _ _ _ _ _ _ _ _)
      | (with_reducible exact ih3 _ _ _ _ _ _ _ _ _ _ _ _ _ _)
      | (with_reducible exact coord_Do.mono _ _ _ _ _ _ _ _ _)
      | (with_reducible exact LeO.refl _)
      | (with_reducible exact LeO.none _)
      | (with_reducible refine LeO.ite ?_ ?_)
      | (with_reducible refine LeO.bind ?_ (fun _ => ?_))
      | exact ih0 _ _ _ _ _ _ _ _
      | exact ih1 _ _ _ _ _ _ _ _ _ _ _ _ _ _
      | exact ih2 _ _ _ _ _ _ _ _ _ _ _ _ _ _
      | exact ih3 _ _ _ _ _ _ _ _ _ _ _ _ _ _
      | exact coord_Do.mono _ _ _ _ _ _ _ _ _
      | exact LeO.none _
      | refine LeO.ite ?_ ?_
      | refine LeO.bind ?_ (fun _ => ?_)
theorem ferrulelaw14_CoordCommits.mono : ∀ a0 a1 a2 k, LeO (ferrulelaw14_CoordCommits.f k a0 a1 a2) (ferrulelaw14_CoordCommits.f (k + 1) a0 a1 a2) := by
  intro a0 a1 a2 k
  obtain ⟨ih0, ih1, ih2, ih3⟩ := ferrulelaw14_CoordCommits.mono_l k
  unfold ferrulelaw14_CoordCommits.f
  repeat' first
      | (with_reducible exact ih0 _ _ _ _ _ _ _ _)
      | (with_reducible exact ih1 _ _ _ _ _ _ _ _ _ _ _ _ _ _)
      | (with_reducible exact ih2 _ _ _ _ _ _ _ _ _ _ _ _ _ _)
      | (with_reducible exact ih3 _ _ _ _ _ _ _ _ _ _ _ _ _ _)
      | (with_reducible exact coord_Do.mono _ _ _ _ _ _ _ _ _)
      | (with_reducible exact LeO.refl _)
      | (with_reducible exact LeO.none _)
      | (with_reducible refine LeO.ite ?_ ?_)
      | (with_reducible refine LeO.bind ?_ (fun _ => ?_))
      | exact ih0 _ _ _ _ _ _ _ _
      | exact ih1 _ _ _ _ _ _ _ _ _ _ _ _ _ _
      | exact ih2 _ _ _ _ _ _ _ _ _ _ _ _ _ _
      | exact ih3 _ _ _ _ _ _ _ _ _ _ _ _ _ _
      | exact coord_Do.mono _ _ _ _ _ _ _ _ _
      | exact LeO.none _
      | refine LeO.ite ?_ ?_
      | refine LeO.bind ?_ (fun _ => ?_)
def ferrulelaw14_CoordCommits.T8 : Bool × List (List Nat × List Nat) := (true, [([], []), ([], []), ([], []), ([1, 2], [1, 2]), ([3], [3]), ([0, 4], [0, 4]), ([5], [5]), ([6], [6]), ([6], [6]), ([], []), ([], []), ([9, 7, 5, 0, 1, 2, 3, 4, 5, 6, 7, 9, 10], [7, 9]), ([10, 8, 11, 0, 1, 2, 3, 4, 5, 6, 7, 8, 9, 10, 11], [8, 10])])
def ferrulelaw14_CoordCommits.B8 : List Nat := [0, 0, 0, 6, 14, 31, 63, 127, 127, 0, 0, 1791, 4095]
theorem ferrulelaw14_CoordCommits.tab8 : rtab .any (opsOf Try.f5 8) = ferrulelaw14_CoordCommits.T8 := by kernel_rfl
theorem ferrulelaw14_CoordCommits.bits8 : waitsOk ferrulelaw14_CoordCommits.T8.2 ferrulelaw14_CoordCommits.B8 = true := by kernel_rfl
def ferrulelaw14_CoordCommits.T10 : Bool × List (List Nat × List Nat) := (true, [([], []), ([], []), ([0, 1], [0, 1]), ([2], [2]), ([3], [3]), ([], []), ([4, 5], [4, 5]), ([6], [6]), ([7], [7]), ([8, 7], [7, 8]), ([9, 7], [7, 9]), ([7, 10], [7, 10])])
def ferrulelaw14_CoordCommits.B10 : List Nat := [0, 0, 3, 7, 15, 0, 63, 127, 255, 511, 1023, 2047]
theorem ferrulelaw14_CoordCommits.tab10 : rtab .any (opsOf Try.f5 10) = ferrulelaw14_CoordCommits.T10 := by kernel_rfl
theorem ferrulelaw14_CoordCommits.bits10 : waitsOk ferrulelaw14_CoordCommits.T10.2 ferrulelaw14_CoordCommits.B10 = true := by kernel_rfl
namespace Sh14
theorem am_ {p : Prop} (h : p) : Aside0 p := ⟨h⟩
theorem bx_ {Q P : Prop} (b : Aside0 Q) (h : Q → P := by intro hq_; (with_reducible repeat (first | refine blk_drewN ?_ _ | refine blk_drew ?_ | refine blk_alloc ?_ _)); exact hq_) : P := h b.out
theorem hx_ {Q P : Prop} (b : Aside0 Q) (h : Q → P := by intro hq_; repeat (first | (with_reducible first | exact hq_ | apply below_alloc | apply pw_below_drewN | apply below_drew1 | refine below_set ?_ (Aside0.out (by assumption))) | exact hq_)) : P := h b.out
theorem vx_ {Q P : Prop} (b : Aside0 Q) (h : Q → P := by intro hq_; (with_reducible repeat (first | apply Kd.V_alloc | apply Kd.V_drewN | apply Kd.V_drew)); exact hq_) : P := h b.out
theorem rx_ {Q P : Prop} (b : Aside0 Q) (h : Q → P := by intro hq_; (with_reducible repeat (first | apply Kd.R_alloc | apply Kd.R_drewN | apply Kd.R_drew)); exact hq_) : P := h b.out
theorem nx_ {Q P : Prop} (b : Aside0 Q) (h : Q → P := by intro hq_; (with_reducible repeat (first | apply Kd.N_alloc | apply Kd.N_drewN | apply Kd.N_drew)); exact hq_) : P := h b.out
abbrev bN0_ : Array Bool := #[false, false, false, false, false, false, false, false, false, false, false, false, false]
abbrev bN1_ : Array Bool := #[false, true, false, false, false, false, false, false, false, false, false, false, false]
abbrev bN2_ : Array Bool := #[false, true, true, false, false, false, false, false, false, false, false, false, false]
abbrev bN3_ : Array Bool := #[false, true, true, true, false, false, false, false, false, false, false, false, false]
abbrev bN4_ : Array Bool := #[true, true, true, true, false, false, false, false, false, false, false, false, false]
abbrev bN5_ : Array Bool := #[true, true, true, true, true, false, false, false, false, false, false, false, false]
abbrev bN6_ : Array Bool := #[true, true, true, true, true, true, true, true, true, true, true, false, false]
abbrev bN7_ : Array Bool := #[true, true, true, true, true, true, true, true, true, true, false, false, false]
abbrev bN8_ : Array Bool := #[true, true, true, true, true, true, true, true, true, false, true, false, false]
abbrev bN9_ : Array Bool := #[true, true, true, true, true, false, false, false, false, true, true, false, false]
abbrev bN10_ : Array Bool := #[true, true, true, true, true, true, true, true, true, false, false, false, false]
abbrev bN11_ : Array Bool := #[true, true, true, true, true, false, false, false, false, true, false, false, false]
abbrev bN12_ : Array Bool := #[true, true, true, true, true, false, false, false, false, false, true, false, false]
abbrev bN13_ : Array Bool := #[true, true, true, true, true, true, false, false, false, false, false, false, false]
abbrev bN14_ : Array Bool := #[true, true, true, true, true, true, true, false, false, false, false, false, false]
abbrev bN15_ : Array Bool := #[true, true, true, true, true, true, true, true, false, false, false, false, false]
abbrev bN16_ : Array Bool := #[true, true, true, true, true, true, false, false, false, false, true, false, false]
abbrev bN17_ : Array Bool := #[true, true, true, true, true, true, true, false, false, false, true, false, false]
abbrev bN18_ : Array Bool := #[true, true, true, true, true, true, true, true, false, false, true, false, false]
abbrev bN19_ : Array Bool := #[true, true, true, true, true, true, false, false, false, true, false, false, false]
abbrev bN20_ : Array Bool := #[true, true, true, true, true, true, true, false, false, true, false, false, false]
abbrev bN21_ : Array Bool := #[true, true, true, true, true, true, true, true, false, true, false, false, false]
abbrev bN22_ : Array Bool := #[true, true, true, true, true, true, false, false, false, true, true, false, false]
abbrev bN23_ : Array Bool := #[true, true, true, true, true, true, true, false, false, true, true, false, false]
abbrev bN24_ : Array Bool := #[true, true, true, true, true, true, true, true, false, true, true, false, false]
abbrev bN25_ : Array Bool := #[true, true, true, true, true, true, true, true, true, true, true, true, false]
abbrev bN26_ : Array Bool := #[true, true, true, true, true, true, true, true, true, true, true, true, true]
abbrev bN27_ : Array Bool := #[false, false, false, false, false, false, false, false, false, false, false, false]
abbrev bN28_ : Array Bool := #[true, false, false, false, false, false, false, false, false, false, false, false]
abbrev bN29_ : Array Bool := #[true, true, false, false, false, false, false, false, false, false, false, false]
abbrev bN30_ : Array Bool := #[true, true, true, false, false, false, false, false, false, false, false, false]
abbrev bN31_ : Array Bool := #[true, true, true, true, false, false, false, false, false, false, false, false]
abbrev bN32_ : Array Bool := #[true, true, true, true, true, false, false, false, false, false, false, false]
abbrev bN33_ : Array Bool := #[true, true, true, true, true, true, false, false, false, false, false, false]
abbrev bN34_ : Array Bool := #[true, true, true, true, true, true, true, false, false, false, false, false]
abbrev bN35_ : Array Bool := #[true, true, true, true, true, true, true, true, false, false, false, false]
abbrev bN36_ : Array Bool := #[true, true, true, true, true, true, true, true, true, false, false, false]
abbrev bN37_ : Array Bool := #[true, true, true, true, true, true, true, true, true, true, false, false]
abbrev bN38_ : Array Bool := #[true, true, true, true, true, true, true, true, true, true, true, false]
abbrev bN39_ : Array Bool := #[true, true, true, true, true, true, true, true, true, true, true, true]
end Sh14
open Sh14
set_option maxHeartbeats 8000000 in
set_option maxRecDepth 100000 in
theorem ferrulelaw14_CoordCommits.calls (k : Nat) (A0 : Option Addr) (c0 : Nat) (l0 : List (S38)) (a1_0 : Int) (a1_1 : Int) (r : Bool) (w : World) (hr0 : Kd.C k38 w A0 l0.length l0) (hc0 : l0.length ≤ c0) (h : ferrulelaw14_CoordCommits.f k l0 a1_0 a1_1 = some r) :
    Calls Try.prog 5 #[.slice A0 l0.length c0, .agg #[.int .u64 a1_0, .int .u64 a1_1]] w fun e w' => e = .returned (.bool r) ∧ Below w.heap.size w w' := by
  have hu34 := Try.underlying34
  have hu26 := Try.underlying26
  have hu38 := Try.underlying38
  have hu30 := Try.underlying30
  have HR0 := am_ hr0
  have HC0 := am_ hc0
  clear hr0 hc0
  have HB := am_ (Below.refl w.heap.size w)
  have H : ((ferrulelaw14_shown.f).bind fun t277 => (ferrulelaw14_CoordCommits.l0 k l0 t277 false 0 0 a1_0 a1_1 ([] : List (S42)))) = some r := h
  clear h
  replace H := Option.bind_eq_some_iff.mp H
  obtain ⟨t277, A30, H⟩ := H
  replace H : (ferrulelaw14_CoordCommits.l0 k l0 t277 false 0 0 a1_0 a1_1 ([] : List (S42))) = some r := H
  have A3 := am_ A30
  clear A30
  have H' := am_ H
  clear H
  go_enter Try.func5, Try.ntmps5
  go_wp2_with (first | ((with_reducible refine gate_dst (N := 3) rfl ?_); refine box_event ?hg (N := 3) ?hd (cs := #[.int .u64 a1_0, .int .u64 a1_1]) (t := 34) ?hr ?_; (case hd => rfl); (case hg => rfl); (case hr => first | (go_simp; done) | (go_simp; rfl)); intro gb276 hg w4 hbox hb; have n0_ := am_ (below_step (hx_ HB) hb); have n1_ := am_ (hbox); have n2_ := am_ ((by rw [hg]; exact (below_size (hx_ HB)) : w.heap.size ≤ gb276)); have n3_ := am_ ((by rw [hg]; exact (below_size (hx_ HB)) : w.heap.size ≤ gb276)); clear HB; have HB := n0_; have BK276 := n1_; have GW276 := n2_; have GE276 := n3_; clear n0_ n1_ n2_ n3_; clear hb hbox hg) | ((with_reducible refine gate_callee (f := 8) rfl ?_); refine goesL_ (some 12) rfl rfl Try.func8 (by kernel_rfl) rfl #[] rfl (by (try simp only [List.map_toArray, List.map_cons, List.map_nil]); first | done | rfl | (simp only [List.length_drop, List.length_take]; rfl)) ?_; (with_reducible refine (ferrulelaw14_shown.calls  t277 _ A3.out).mono ?_); rintro e w5 ⟨rfl, hb⟩; refine ⟨_, rfl, ?_⟩; have n0_ := am_ (blk_below (g := gb276) (o := .cells #[.int .u64 a1_0, .int .u64 a1_1] 34 (0, 0)) (bx_ BK276) hb); have n1_ := am_ (below_step (hx_ HB) hb); clear BK276; clear HB; have BK276 := n0_; have HB := n1_; clear n0_ n1_; (try clear hb); (try clear hb2); (try clear hk); (try clear hi)) | ((with_reducible refine gate_dst (N := 6) rfl ?_); refine box_event ?hg (N := 6) ?hd (cs := #[.slice none 0 0]) (t := 26) ?hr ?_; (case hd => rfl); (case hg => rfl); (case hr => first | (go_simp; done) | (go_simp; rfl)); intro gb278 hg w6 hbox hb; have n0_ := am_ (blk_below (g := gb276) (o := .cells #[.int .u64 a1_0, .int .u64 a1_1] 34 (0, 0)) (bx_ BK276) hb); have n1_ := am_ (below_step (hx_ HB) hb); have n2_ := am_ (hbox); have n3_ := am_ ((by rw [hg]; exact (below_size (hx_ HB)) : w.heap.size ≤ gb278)); have n4_ := am_ ((by rw [hg]; exact (below_size (hx_ HB)) : w.heap.size ≤ gb278)); have n5_ := am_ ((by rw [hg]; exact Nat.ne_of_lt (blk_lt (g := gb276) (o := .cells #[.int .u64 a1_0, .int .u64 a1_1] 34 (0, 0)) (bx_ BK276)) : gb276 ≠ gb278)); have n6_ := am_ ((by rw [hg]; exact Nat.ne_of_gt (blk_lt (g := gb276) (o := .cells #[.int .u64 a1_0, .int .u64 a1_1] 34 (0, 0)) (bx_ BK276)) : gb278 ≠ gb276)); clear BK276; clear HB; have BK276 := n0_; have HB := n1_; have BK278 := n2_; have GW278 := n3_; have GE278 := n4_; have NB276_278 := n5_; have NB278_276 := n6_; clear n0_ n1_ n2_ n3_ n4_ n5_ n6_; clear hb hbox hg; have hnb7 := NB278_276.out; have hnc7 := NB276_278.out; have hcz8_0 : w6.cell? ⟨gb278, 0, none⟩ = some (.slice none 0 0) := (blk_cell BK278.out 0).trans rfl; have hfz8_0 := blk_frozen BK278.out 0))
  go_loopg [7, 8, 9] k (fun kq v7 v8 v9 w' => ∃ (x7_1 : Bool) (x8_1 : Int) (x9_1 : Int) (x279000_1 : List (S42)) (u279000 : Value), v7 = .bool x7_1 ∧ v8 = .int .i64 x8_1 ∧ v9 = .int .i64 x9_1 ∧ Aside0 (ferrulelaw14_CoordCommits.l0 kq l0 t277 x7_1 x8_1 x9_1 a1_0 a1_1 x279000_1 = some r) ∧ Aside0 (kq ≤ k) ∧ Aside0 (Kd.V k42 42 w' w.heap.size (fun k_ => k_ ≠ gb276 ∧ k_ ≠ gb278) u279000 x279000_1) ∧ Aside0 (w'.heap[gb276]? = some (.cells #[.int .u64 a1_0, .int .u64 a1_1] 34 (0, 0))) ∧ Aside0 (w'.heap[gb278]? = some (.cells #[u279000] 26 (0, 0))) ∧ Aside0 (Below w.heap.size w w'))
  case atStart => exact ⟨(false), (0), (0), (([] : List (S42))), (.slice none 0 0), (by first | rfl | (simp; done) | (simp [*]; done)), (by first | rfl | (simp; done) | (simp [*]; done)), (by first | rfl | (simp; done) | (simp [*]; done)), H', ⟨Nat.le_refl _⟩, ⟨Kd.S_V (by first | exact Kd.S_nil _ _ _ _ _ | exact Kd.N_nil _ _ _ _ _ | exact Kd.V_nil _ _ _ _ _ | exact Kd.Q_nil _ _ _ _ _ | exact Kd.R_nil _ _ _ _ _ | exact Kd.S_nil _ _ _ w.heap.size _)⟩, ⟨by (with_reducible repeat (first | refine blk_drewN ?_ _ | refine blk_drew ?_ | refine blk_alloc ?_ _)); refine blk_far ?_ NB276_278.out _; (with_reducible repeat (first | refine blk_drewN ?_ _ | refine blk_drew ?_ | refine blk_alloc ?_ _)); exact BK276.out⟩, ⟨by (with_reducible repeat (first | refine blk_drewN ?_ _ | refine blk_drew ?_ | refine blk_alloc ?_ _)); refine blk_put (cs := #[.slice none 0 0]) ?_ 0 _ rfl; (with_reducible repeat (first | refine blk_drewN ?_ _ | refine blk_drew ?_ | refine blk_alloc ?_ _)); exact BK278.out⟩, ⟨hx_ HB⟩⟩
  case round =>
    clear H'
    try clear p2
    try clear c5
    try clear c7
    try clear c8
    try clear hcz8_0
    try clear hfz8_0
    obtain ⟨x7_1, x8_1, x9_1, x279000_1, u279000, rfl, rfl, rfl, HA, HK1, HO_279000, BK276, BK278, HB⟩ := hrel
    cases gk with
    | zero => exact absurd HA.out (by simp [ferrulelaw14_CoordCommits.l0])
    | succ k1 =>
      have H := HA.out
      clear HA
      simp only [ferrulelaw14_CoordCommits.l0] at H
      by_cases c9 : x9_1 < (l0.length : Int)
      · rw [if_pos c9] at H
        have c9b0 : decide (x9_1 < (l0.length : Int)) = true := decide_eq_true c9
        clear c9
        by_cases c10 : 0 ≤ x9_1
        · rw [if_pos c10] at H
          have c10b0 : decide (0 ≤ x9_1) = true := decide_eq_true c10
          clear c10
          replace H := Option.bind_eq_some_iff.mp H
          obtain ⟨⟨t280, t283, t284, t285, t286, t287⟩, A110, H⟩ := H
          replace H : (if (!(((rd_T38 l0 x9_1).f1.f0) == a1_0) || (!(((rd_T38 l0 x9_1).f1.f1) == a1_1))) = true then (ferrulelaw14_CoordCommits.j1 k1 l0 t277 x7_1 x8_1 x9_1 true a1_0 a1_1 t280 t283 t284 t285 t286 t287) else (ferrulelaw14_CoordCommits.j1 k1 l0 t277 x7_1 x8_1 x9_1 (t283 != 0) a1_0 a1_1 t280 t283 t284 t285 t286 t287)) = some r := H
          have A11 := am_ A110
          clear A110
          have HC12 := am_ H
          clear H
          obtain ⟨Ao13, co13, eo13⟩ := Kd.V_slice HO_279000.out
          subst eo13
          try go_wp2
          have n0_ := am_ (Kd.V_drew HO_279000.out)
          have n1_ := am_ (blk_drew BK276.out)
          have n2_ := am_ (blk_drew BK278.out)
          have n3_ := am_ (below_drew1 HB.out)
          clear HO_279000
          clear BK276
          clear BK278
          clear HB
          have HO_279000 := n0_
          have BK276 := n1_
          have BK278 := n2_
          have HB := n3_
          clear n0_ n1_ n2_ n3_
          have p279 : 0 ≤ (x9_1 : Int) := of_decide_eq_true (by first | (with_reducible assumption) | assumption)
          have q279 : x9_1 < (l0.length : Int) := of_decide_eq_true (by first | (with_reducible assumption) | assumption)
          obtain ⟨ad279, A279_4, c279_4, A279_6, c279_6, e279, hx279_0, hx279_1, hx279_2, hx279_3, hx279_4, hx279_5, hx279_6, hl279_4, hi279_4, hl279_6, hi279_6⟩ := at_T38 HR0.out x9_1 p279 q279
          have hw279_6 := hx279_6
          have hw279_5 := hx279_5
          have hw279_4 := hx279_4
          have hw279_3 := hx279_3
          have hw279_2 := hx279_2
          have hw279_1 := hx279_1
          have hw279_0 := hx279_0
          cases e279
          replace hx279_0 := (HB.out.cell (World.block_lt_of_cell? w _ hx279_0)).trans hx279_0
          replace hx279_1 := (HB.out.cell (World.block_lt_of_cell? w _ hx279_1)).trans hx279_1
          replace hx279_2 := (HB.out.cell (World.block_lt_of_cell? w _ hx279_2)).trans hx279_2
          replace hx279_3 := (HB.out.cell (World.block_lt_of_cell? w _ hx279_3)).trans hx279_3
          replace hx279_4 := (HB.out.cell (World.block_lt_of_cell? w _ hx279_4)).trans hx279_4
          replace hx279_5 := (HB.out.cell (World.block_lt_of_cell? w _ hx279_5)).trans hx279_5
          replace hx279_6 := (HB.out.cell (World.block_lt_of_cell? w _ hx279_6)).trans hx279_6
          have HR279_4 := am_ hi279_4
          have HC279_4 := am_ hl279_4
          clear hi279_4 hl279_4
          have HR279_6 := am_ hi279_6
          have HC279_6 := am_ hl279_6
          clear hi279_6 hl279_6
          replace p279 := eq_true p279
          replace q279 := eq_true q279
          refine start_ (n := 13) (S := fun w' => w'.cell? ⟨gb278, 0, none⟩ = some (.slice Ao13 x279000_1.length co13) ∧ w'.cell? (ad279.add ((x9_1).toNat * 7)) = some (.int .i64 ((rd_T38 l0 x9_1).f0)) ∧ w'.cell? ⟨(ad279.add ((x9_1).toNat * 7)).block, (ad279.add ((x9_1).toNat * 7)).off + 1, none⟩ = some (.int .u64 ((rd_T38 l0 x9_1).f1.f0)) ∧ w'.cell? ⟨(ad279.add ((x9_1).toNat * 7)).block, (ad279.add ((x9_1).toNat * 7)).off + 2, none⟩ = some (.int .u64 ((rd_T38 l0 x9_1).f1.f1)) ∧ w'.cell? ⟨(ad279.add ((x9_1).toNat * 7)).block, (ad279.add ((x9_1).toNat * 7)).off + 3, none⟩ = some (.string ((rd_T38 l0 x9_1).f2)) ∧ w'.cell? ⟨(ad279.add ((x9_1).toNat * 7)).block, (ad279.add ((x9_1).toNat * 7)).off + 4, none⟩ = some (.slice A279_4 ((rd_T38 l0 x9_1).f3).length c279_4) ∧ w'.cell? ⟨(ad279.add ((x9_1).toNat * 7)).block, (ad279.add ((x9_1).toNat * 7)).off + 5, none⟩ = some (.bool ((rd_T38 l0 x9_1).f4)) ∧ w'.cell? ⟨(ad279.add ((x9_1).toNat * 7)).block, (ad279.add ((x9_1).toNat * 7)).off + 6, none⟩ = some (.slice A279_6 ((rd_T38 l0 x9_1).f5).length c279_6)) (ds := []) bN0_ (by kernel_rfl) rfl rfl ⟨(blk_cell BK278.out 0).trans rfl, ((HB.out.cell (World.block_lt_of_cell? w _ hw279_0)).trans hw279_0), ((HB.out.cell (World.block_lt_of_cell? w _ hw279_1)).trans hw279_1), ((HB.out.cell (World.block_lt_of_cell? w _ hw279_2)).trans hw279_2), ((HB.out.cell (World.block_lt_of_cell? w _ hw279_3)).trans hw279_3), ((HB.out.cell (World.block_lt_of_cell? w _ hw279_4)).trans hw279_4), ((HB.out.cell (World.block_lt_of_cell? w _ hw279_5)).trans hw279_5), ((HB.out.cell (World.block_lt_of_cell? w _ hw279_6)).trans hw279_6)⟩ (fun hHeld => ?_); refine with_tabW ferrulelaw14_CoordCommits.tab8 ferrulelaw14_CoordCommits.bits8 (fun HT_ HW_ => ?_)
          generalize wr.drew = w14 at HO_279000 BK276 BK278 HB HR279_4 HR279_6 hx279_0 hx279_1 hx279_2 hx279_3 hx279_4 hx279_5 hx279_6 hHeld ⊢
          refine pure_ (i := 1) (N := some 22) (v := ?_) (a' := ?_) bN1_ rfl rfl (any_of HT_.out (by kernel_rfl)) (fun _ _ _ h => h) (Or.inl ⟨by rfl, ?_⟩) ?_ ?_
          rotate_left
          · intro w'
            go_simp
            with_reducible rfl
          rotate_left
          · simp only [Act.put, List.setIfInBounds_toArray, List.set_cons_zero, List.set_cons_succ, i64_w, i32_w]
            rfl
          refine pure_ (i := 2) (N := some 23) (v := ?_) (a' := ?_) bN2_ rfl rfl (any_of HT_.out (by kernel_rfl)) (fun _ _ _ h => h) (Or.inl ⟨by rfl, ?_⟩) ?_ ?_
          rotate_left
          · intro w'
            go_simp
            with_reducible rfl
          rotate_left
          · simp only [Act.put, List.setIfInBounds_toArray, List.set_cons_zero, List.set_cons_succ, i64_w, i32_w]
            rfl
          refine pure_ (i := 3) (N := some 24) (v := ?_) (a' := ?_) bN3_ rfl rfl (any_of HT_.out (by kernel_rfl)) (fun _ _ _ h => h) (Or.inl ⟨by rfl, ?_⟩) ?_ ?_
          rotate_left
          · intro w'
            go_simp
            with_reducible rfl
          rotate_left
          · simp only [Act.put, List.setIfInBounds_toArray, List.set_cons_zero, List.set_cons_succ, i64_w, i32_w]
            rfl
          refine take_ (i := 0) (N := some 21) (v := ?_) (a' := ?_) bN4_ rfl rfl (take_ofW HT_.out HW_.out (by kernel_rfl)) (fun _ _ _ h => h) (Or.inl ⟨by rfl, ?_⟩) hHeld ?_ ?_
          rotate_left
          · rintro w' ⟨s0, s1, s2, s3, s4, s5, s6, s7⟩
            go_simp
            with_reducible rfl
          rotate_left
          · simp only [Act.put, List.setIfInBounds_toArray, List.set_cons_zero, List.set_cons_succ, i64_w, i32_w]
            rfl
          refine take_ (i := 4) (N := some 25) (v := ?_) (a' := ?_) bN5_ rfl rfl (take_ofW HT_.out HW_.out (by kernel_rfl)) (fun _ _ _ h => h) (Or.inl ⟨by rfl, ?_⟩) hHeld ?_ ?_
          rotate_left
          · rintro w' ⟨s0, s1, s2, s3, s4, s5, s6, s7⟩
            go_simp
            with_reducible rfl
          rotate_left
          · simp only [Act.put, List.setIfInBounds_toArray, List.set_cons_zero, List.set_cons_succ, i64_w, i32_w]
            rfl
          refine join_ (σ := Value × Nat × Nat) 2 bN6_ (fun s_ => [(26, .tuple #[.agg #[s_.1], .agg #[.int .i64 t283, .string t284, .int .u64 t285, .bool t286, .bool t287]]), (10, .pointer (some ⟨s_.2.1, 0, none⟩)), (11, .pointer (some ⟨s_.2.2, 0, none⟩)), (20, .tuple #[.agg #[s_.1], .agg #[.int .i64 t283, .string t284, .int .u64 t285, .bool t286, .bool t287]]), (27, .agg #[s_.1]), (28, .agg #[.int .i64 t283, .string t284, .int .u64 t285, .bool t286, .bool t287])]) (fun s_ w' => (w'.cell? ⟨gb278, 0, none⟩ = some (.slice Ao13 x279000_1.length co13) ∧ w'.cell? (ad279.add ((x9_1).toNat * 7)) = some (.int .i64 ((rd_T38 l0 x9_1).f0)) ∧ w'.cell? ⟨(ad279.add ((x9_1).toNat * 7)).block, (ad279.add ((x9_1).toNat * 7)).off + 1, none⟩ = some (.int .u64 ((rd_T38 l0 x9_1).f1.f0)) ∧ w'.cell? ⟨(ad279.add ((x9_1).toNat * 7)).block, (ad279.add ((x9_1).toNat * 7)).off + 2, none⟩ = some (.int .u64 ((rd_T38 l0 x9_1).f1.f1)) ∧ w'.cell? ⟨(ad279.add ((x9_1).toNat * 7)).block, (ad279.add ((x9_1).toNat * 7)).off + 3, none⟩ = some (.string ((rd_T38 l0 x9_1).f2)) ∧ w'.cell? ⟨(ad279.add ((x9_1).toNat * 7)).block, (ad279.add ((x9_1).toNat * 7)).off + 4, none⟩ = some (.slice A279_4 ((rd_T38 l0 x9_1).f3).length c279_4) ∧ w'.cell? ⟨(ad279.add ((x9_1).toNat * 7)).block, (ad279.add ((x9_1).toNat * 7)).off + 5, none⟩ = some (.bool ((rd_T38 l0 x9_1).f4)) ∧ w'.cell? ⟨(ad279.add ((x9_1).toNat * 7)).block, (ad279.add ((x9_1).toNat * 7)).off + 6, none⟩ = some (.slice A279_6 ((rd_T38 l0 x9_1).f5).length c279_6)) ∧ (Kd.V k42 42 w' w.heap.size (fun k_ => k_ ≠ gb276 ∧ k_ ≠ gb278 ∧ k_ ≠ s_.2.1 ∧ k_ ≠ s_.2.2) s_.1 t280) ∧ (Kd.V k42 42 w' w.heap.size (fun k_ => k_ ≠ gb276 ∧ k_ ≠ gb278 ∧ k_ ≠ s_.2.1 ∧ k_ ≠ s_.2.2) (.slice Ao13 x279000_1.length co13) x279000_1) ∧ (w'.heap[gb276]? = some (.cells #[.int .u64 a1_0, .int .u64 a1_1] 34 (0, 0))) ∧ (w'.heap[gb278]? = some (.cells #[.slice Ao13 x279000_1.length co13] 26 (0, 0))) ∧ (w'.heap[s_.2.1]? = some (.cells #[.slice none 0 0] 26 (0, 0))) ∧ (w'.heap[s_.2.2]? = some (.cells #[.int .i64 0, .string (⟨#[]⟩ : ByteArray), .int .u64 0, .bool false, .bool false] 30 (0, 0))) ∧ (w.heap.size ≤ s_.2.1) ∧ (w.heap.size ≤ s_.2.1) ∧ (gb276 ≠ s_.2.1) ∧ (s_.2.1 ≠ gb276) ∧ (gb278 ≠ s_.2.1) ∧ (s_.2.1 ≠ gb278) ∧ (s_.2.2 ≠ s_.2.1) ∧ (s_.2.1 ≠ s_.2.2) ∧ (w.heap.size ≤ s_.2.2) ∧ (w.heap.size ≤ s_.2.2) ∧ (gb276 ≠ s_.2.2) ∧ (s_.2.2 ≠ gb276) ∧ (gb278 ≠ s_.2.2) ∧ (s_.2.2 ≠ gb278) ∧ (Below w.heap.size w w')) ?_ ?_
          rotate_left
          · intro hJ5_9_10
            refine join_ (σ := Value × Nat) 3 bN7_ (fun s_ => [(26, .tuple #[.agg #[s_.1], .agg #[.int .i64 t283, .string t284, .int .u64 t285, .bool t286, .bool t287]]), (10, .pointer (some ⟨s_.2, 0, none⟩)), (20, .tuple #[.agg #[s_.1], .agg #[.int .i64 t283, .string t284, .int .u64 t285, .bool t286, .bool t287]]), (27, .agg #[s_.1]), (28, .agg #[.int .i64 t283, .string t284, .int .u64 t285, .bool t286, .bool t287])]) (fun s_ w' => (w'.cell? ⟨gb278, 0, none⟩ = some (.slice Ao13 x279000_1.length co13) ∧ w'.cell? (ad279.add ((x9_1).toNat * 7)) = some (.int .i64 ((rd_T38 l0 x9_1).f0)) ∧ w'.cell? ⟨(ad279.add ((x9_1).toNat * 7)).block, (ad279.add ((x9_1).toNat * 7)).off + 1, none⟩ = some (.int .u64 ((rd_T38 l0 x9_1).f1.f0)) ∧ w'.cell? ⟨(ad279.add ((x9_1).toNat * 7)).block, (ad279.add ((x9_1).toNat * 7)).off + 2, none⟩ = some (.int .u64 ((rd_T38 l0 x9_1).f1.f1)) ∧ w'.cell? ⟨(ad279.add ((x9_1).toNat * 7)).block, (ad279.add ((x9_1).toNat * 7)).off + 3, none⟩ = some (.string ((rd_T38 l0 x9_1).f2)) ∧ w'.cell? ⟨(ad279.add ((x9_1).toNat * 7)).block, (ad279.add ((x9_1).toNat * 7)).off + 4, none⟩ = some (.slice A279_4 ((rd_T38 l0 x9_1).f3).length c279_4) ∧ w'.cell? ⟨(ad279.add ((x9_1).toNat * 7)).block, (ad279.add ((x9_1).toNat * 7)).off + 5, none⟩ = some (.bool ((rd_T38 l0 x9_1).f4)) ∧ w'.cell? ⟨(ad279.add ((x9_1).toNat * 7)).block, (ad279.add ((x9_1).toNat * 7)).off + 6, none⟩ = some (.slice A279_6 ((rd_T38 l0 x9_1).f5).length c279_6)) ∧ (Kd.V k42 42 w' w.heap.size (fun k_ => k_ ≠ gb276 ∧ k_ ≠ gb278 ∧ k_ ≠ s_.2) s_.1 t280) ∧ (Kd.V k42 42 w' w.heap.size (fun k_ => k_ ≠ gb276 ∧ k_ ≠ gb278 ∧ k_ ≠ s_.2) (.slice Ao13 x279000_1.length co13) x279000_1) ∧ (w'.heap[gb276]? = some (.cells #[.int .u64 a1_0, .int .u64 a1_1] 34 (0, 0))) ∧ (w'.heap[gb278]? = some (.cells #[.slice Ao13 x279000_1.length co13] 26 (0, 0))) ∧ (w'.heap[s_.2]? = some (.cells #[.slice none 0 0] 26 (0, 0))) ∧ (w.heap.size ≤ s_.2) ∧ (w.heap.size ≤ s_.2) ∧ (gb276 ≠ s_.2) ∧ (s_.2 ≠ gb276) ∧ (gb278 ≠ s_.2) ∧ (s_.2 ≠ gb278) ∧ (Below w.heap.size w w')) ?_ ?_
            rotate_left
            · intro hJ5_9
              refine join_ (σ := Value × Nat) 3 bN8_ (fun s_ => [(26, .tuple #[.agg #[s_.1], .agg #[.int .i64 t283, .string t284, .int .u64 t285, .bool t286, .bool t287]]), (11, .pointer (some ⟨s_.2, 0, none⟩)), (20, .tuple #[.agg #[s_.1], .agg #[.int .i64 t283, .string t284, .int .u64 t285, .bool t286, .bool t287]]), (27, .agg #[s_.1]), (28, .agg #[.int .i64 t283, .string t284, .int .u64 t285, .bool t286, .bool t287])]) (fun s_ w' => (w'.cell? ⟨gb278, 0, none⟩ = some (.slice Ao13 x279000_1.length co13) ∧ w'.cell? (ad279.add ((x9_1).toNat * 7)) = some (.int .i64 ((rd_T38 l0 x9_1).f0)) ∧ w'.cell? ⟨(ad279.add ((x9_1).toNat * 7)).block, (ad279.add ((x9_1).toNat * 7)).off + 1, none⟩ = some (.int .u64 ((rd_T38 l0 x9_1).f1.f0)) ∧ w'.cell? ⟨(ad279.add ((x9_1).toNat * 7)).block, (ad279.add ((x9_1).toNat * 7)).off + 2, none⟩ = some (.int .u64 ((rd_T38 l0 x9_1).f1.f1)) ∧ w'.cell? ⟨(ad279.add ((x9_1).toNat * 7)).block, (ad279.add ((x9_1).toNat * 7)).off + 3, none⟩ = some (.string ((rd_T38 l0 x9_1).f2)) ∧ w'.cell? ⟨(ad279.add ((x9_1).toNat * 7)).block, (ad279.add ((x9_1).toNat * 7)).off + 4, none⟩ = some (.slice A279_4 ((rd_T38 l0 x9_1).f3).length c279_4) ∧ w'.cell? ⟨(ad279.add ((x9_1).toNat * 7)).block, (ad279.add ((x9_1).toNat * 7)).off + 5, none⟩ = some (.bool ((rd_T38 l0 x9_1).f4)) ∧ w'.cell? ⟨(ad279.add ((x9_1).toNat * 7)).block, (ad279.add ((x9_1).toNat * 7)).off + 6, none⟩ = some (.slice A279_6 ((rd_T38 l0 x9_1).f5).length c279_6)) ∧ (Kd.V k42 42 w' w.heap.size (fun k_ => k_ ≠ gb276 ∧ k_ ≠ gb278 ∧ k_ ≠ s_.2) s_.1 t280) ∧ (Kd.V k42 42 w' w.heap.size (fun k_ => k_ ≠ gb276 ∧ k_ ≠ gb278 ∧ k_ ≠ s_.2) (.slice Ao13 x279000_1.length co13) x279000_1) ∧ (w'.heap[gb276]? = some (.cells #[.int .u64 a1_0, .int .u64 a1_1] 34 (0, 0))) ∧ (w'.heap[gb278]? = some (.cells #[.slice Ao13 x279000_1.length co13] 26 (0, 0))) ∧ (w'.heap[s_.2]? = some (.cells #[.int .i64 0, .string (⟨#[]⟩ : ByteArray), .int .u64 0, .bool false, .bool false] 30 (0, 0))) ∧ (w.heap.size ≤ s_.2) ∧ (w.heap.size ≤ s_.2) ∧ (gb276 ≠ s_.2) ∧ (s_.2 ≠ gb276) ∧ (gb278 ≠ s_.2) ∧ (s_.2 ≠ gb278) ∧ (Below w.heap.size w w')) ?_ ?_
              rotate_left
              · intro hJ5_10
                refine join_ (σ := Nat × Nat) 6 bN9_ (fun s_ => [(10, .pointer (some ⟨s_.1, 0, none⟩)), (11, .pointer (some ⟨s_.2, 0, none⟩))]) (fun s_ w' => (w'.cell? ⟨gb278, 0, none⟩ = some (.slice Ao13 x279000_1.length co13) ∧ w'.cell? (ad279.add ((x9_1).toNat * 7)) = some (.int .i64 ((rd_T38 l0 x9_1).f0)) ∧ w'.cell? ⟨(ad279.add ((x9_1).toNat * 7)).block, (ad279.add ((x9_1).toNat * 7)).off + 1, none⟩ = some (.int .u64 ((rd_T38 l0 x9_1).f1.f0)) ∧ w'.cell? ⟨(ad279.add ((x9_1).toNat * 7)).block, (ad279.add ((x9_1).toNat * 7)).off + 2, none⟩ = some (.int .u64 ((rd_T38 l0 x9_1).f1.f1)) ∧ w'.cell? ⟨(ad279.add ((x9_1).toNat * 7)).block, (ad279.add ((x9_1).toNat * 7)).off + 3, none⟩ = some (.string ((rd_T38 l0 x9_1).f2)) ∧ w'.cell? ⟨(ad279.add ((x9_1).toNat * 7)).block, (ad279.add ((x9_1).toNat * 7)).off + 4, none⟩ = some (.slice A279_4 ((rd_T38 l0 x9_1).f3).length c279_4) ∧ w'.cell? ⟨(ad279.add ((x9_1).toNat * 7)).block, (ad279.add ((x9_1).toNat * 7)).off + 5, none⟩ = some (.bool ((rd_T38 l0 x9_1).f4)) ∧ w'.cell? ⟨(ad279.add ((x9_1).toNat * 7)).block, (ad279.add ((x9_1).toNat * 7)).off + 6, none⟩ = some (.slice A279_6 ((rd_T38 l0 x9_1).f5).length c279_6)) ∧ (Kd.V k42 42 w' w.heap.size (fun k_ => k_ ≠ gb276 ∧ k_ ≠ gb278 ∧ k_ ≠ s_.1 ∧ k_ ≠ s_.2) (.slice Ao13 x279000_1.length co13) x279000_1) ∧ (w'.heap[gb276]? = some (.cells #[.int .u64 a1_0, .int .u64 a1_1] 34 (0, 0))) ∧ (w'.heap[gb278]? = some (.cells #[.slice Ao13 x279000_1.length co13] 26 (0, 0))) ∧ (w'.heap[s_.1]? = some (.cells #[.slice none 0 0] 26 (0, 0))) ∧ (w'.heap[s_.2]? = some (.cells #[.int .i64 0, .string (⟨#[]⟩ : ByteArray), .int .u64 0, .bool false, .bool false] 30 (0, 0))) ∧ (w.heap.size ≤ s_.1) ∧ (w.heap.size ≤ s_.1) ∧ (gb276 ≠ s_.1) ∧ (s_.1 ≠ gb276) ∧ (gb278 ≠ s_.1) ∧ (s_.1 ≠ gb278) ∧ (s_.2 ≠ s_.1) ∧ (s_.1 ≠ s_.2) ∧ (w.heap.size ≤ s_.2) ∧ (w.heap.size ≤ s_.2) ∧ (gb276 ≠ s_.2) ∧ (s_.2 ≠ gb276) ∧ (gb278 ≠ s_.2) ∧ (s_.2 ≠ gb278) ∧ (Below w.heap.size w w')) ?_ ?_
                rotate_left
                · intro hJ9_10
                  refine join_ (σ := Value) 4 bN10_ (fun s_ => [(26, .tuple #[.agg #[s_], .agg #[.int .i64 t283, .string t284, .int .u64 t285, .bool t286, .bool t287]]), (20, .tuple #[.agg #[s_], .agg #[.int .i64 t283, .string t284, .int .u64 t285, .bool t286, .bool t287]]), (27, .agg #[s_]), (28, .agg #[.int .i64 t283, .string t284, .int .u64 t285, .bool t286, .bool t287])]) (fun s_ w' => (w'.cell? ⟨gb278, 0, none⟩ = some (.slice Ao13 x279000_1.length co13) ∧ w'.cell? (ad279.add ((x9_1).toNat * 7)) = some (.int .i64 ((rd_T38 l0 x9_1).f0)) ∧ w'.cell? ⟨(ad279.add ((x9_1).toNat * 7)).block, (ad279.add ((x9_1).toNat * 7)).off + 1, none⟩ = some (.int .u64 ((rd_T38 l0 x9_1).f1.f0)) ∧ w'.cell? ⟨(ad279.add ((x9_1).toNat * 7)).block, (ad279.add ((x9_1).toNat * 7)).off + 2, none⟩ = some (.int .u64 ((rd_T38 l0 x9_1).f1.f1)) ∧ w'.cell? ⟨(ad279.add ((x9_1).toNat * 7)).block, (ad279.add ((x9_1).toNat * 7)).off + 3, none⟩ = some (.string ((rd_T38 l0 x9_1).f2)) ∧ w'.cell? ⟨(ad279.add ((x9_1).toNat * 7)).block, (ad279.add ((x9_1).toNat * 7)).off + 4, none⟩ = some (.slice A279_4 ((rd_T38 l0 x9_1).f3).length c279_4) ∧ w'.cell? ⟨(ad279.add ((x9_1).toNat * 7)).block, (ad279.add ((x9_1).toNat * 7)).off + 5, none⟩ = some (.bool ((rd_T38 l0 x9_1).f4)) ∧ w'.cell? ⟨(ad279.add ((x9_1).toNat * 7)).block, (ad279.add ((x9_1).toNat * 7)).off + 6, none⟩ = some (.slice A279_6 ((rd_T38 l0 x9_1).f5).length c279_6)) ∧ (Kd.V k42 42 w' w.heap.size (fun k_ => k_ ≠ gb276 ∧ k_ ≠ gb278) s_ t280) ∧ (Kd.V k42 42 w' w.heap.size (fun k_ => k_ ≠ gb276 ∧ k_ ≠ gb278) (.slice Ao13 x279000_1.length co13) x279000_1) ∧ (w'.heap[gb276]? = some (.cells #[.int .u64 a1_0, .int .u64 a1_1] 34 (0, 0))) ∧ (w'.heap[gb278]? = some (.cells #[.slice Ao13 x279000_1.length co13] 26 (0, 0))) ∧ (Below w.heap.size w w')) ?_ ?_
                  rotate_left
                  · intro hJ5
                    refine join_ (σ := Nat) 7 bN11_ (fun s_ => [(10, .pointer (some ⟨s_, 0, none⟩))]) (fun s_ w' => (w'.cell? ⟨gb278, 0, none⟩ = some (.slice Ao13 x279000_1.length co13) ∧ w'.cell? (ad279.add ((x9_1).toNat * 7)) = some (.int .i64 ((rd_T38 l0 x9_1).f0)) ∧ w'.cell? ⟨(ad279.add ((x9_1).toNat * 7)).block, (ad279.add ((x9_1).toNat * 7)).off + 1, none⟩ = some (.int .u64 ((rd_T38 l0 x9_1).f1.f0)) ∧ w'.cell? ⟨(ad279.add ((x9_1).toNat * 7)).block, (ad279.add ((x9_1).toNat * 7)).off + 2, none⟩ = some (.int .u64 ((rd_T38 l0 x9_1).f1.f1)) ∧ w'.cell? ⟨(ad279.add ((x9_1).toNat * 7)).block, (ad279.add ((x9_1).toNat * 7)).off + 3, none⟩ = some (.string ((rd_T38 l0 x9_1).f2)) ∧ w'.cell? ⟨(ad279.add ((x9_1).toNat * 7)).block, (ad279.add ((x9_1).toNat * 7)).off + 4, none⟩ = some (.slice A279_4 ((rd_T38 l0 x9_1).f3).length c279_4) ∧ w'.cell? ⟨(ad279.add ((x9_1).toNat * 7)).block, (ad279.add ((x9_1).toNat * 7)).off + 5, none⟩ = some (.bool ((rd_T38 l0 x9_1).f4)) ∧ w'.cell? ⟨(ad279.add ((x9_1).toNat * 7)).block, (ad279.add ((x9_1).toNat * 7)).off + 6, none⟩ = some (.slice A279_6 ((rd_T38 l0 x9_1).f5).length c279_6)) ∧ (Kd.V k42 42 w' w.heap.size (fun k_ => k_ ≠ gb276 ∧ k_ ≠ gb278 ∧ k_ ≠ s_) (.slice Ao13 x279000_1.length co13) x279000_1) ∧ (w'.heap[gb276]? = some (.cells #[.int .u64 a1_0, .int .u64 a1_1] 34 (0, 0))) ∧ (w'.heap[gb278]? = some (.cells #[.slice Ao13 x279000_1.length co13] 26 (0, 0))) ∧ (w'.heap[s_]? = some (.cells #[.slice none 0 0] 26 (0, 0))) ∧ (w.heap.size ≤ s_) ∧ (w.heap.size ≤ s_) ∧ (gb276 ≠ s_) ∧ (s_ ≠ gb276) ∧ (gb278 ≠ s_) ∧ (s_ ≠ gb278) ∧ (Below w.heap.size w w')) ?_ ?_
                    rotate_left
                    · intro hJ9
                      refine join_ (σ := Nat) 7 bN12_ (fun s_ => [(11, .pointer (some ⟨s_, 0, none⟩))]) (fun s_ w' => (w'.cell? ⟨gb278, 0, none⟩ = some (.slice Ao13 x279000_1.length co13) ∧ w'.cell? (ad279.add ((x9_1).toNat * 7)) = some (.int .i64 ((rd_T38 l0 x9_1).f0)) ∧ w'.cell? ⟨(ad279.add ((x9_1).toNat * 7)).block, (ad279.add ((x9_1).toNat * 7)).off + 1, none⟩ = some (.int .u64 ((rd_T38 l0 x9_1).f1.f0)) ∧ w'.cell? ⟨(ad279.add ((x9_1).toNat * 7)).block, (ad279.add ((x9_1).toNat * 7)).off + 2, none⟩ = some (.int .u64 ((rd_T38 l0 x9_1).f1.f1)) ∧ w'.cell? ⟨(ad279.add ((x9_1).toNat * 7)).block, (ad279.add ((x9_1).toNat * 7)).off + 3, none⟩ = some (.string ((rd_T38 l0 x9_1).f2)) ∧ w'.cell? ⟨(ad279.add ((x9_1).toNat * 7)).block, (ad279.add ((x9_1).toNat * 7)).off + 4, none⟩ = some (.slice A279_4 ((rd_T38 l0 x9_1).f3).length c279_4) ∧ w'.cell? ⟨(ad279.add ((x9_1).toNat * 7)).block, (ad279.add ((x9_1).toNat * 7)).off + 5, none⟩ = some (.bool ((rd_T38 l0 x9_1).f4)) ∧ w'.cell? ⟨(ad279.add ((x9_1).toNat * 7)).block, (ad279.add ((x9_1).toNat * 7)).off + 6, none⟩ = some (.slice A279_6 ((rd_T38 l0 x9_1).f5).length c279_6)) ∧ (Kd.V k42 42 w' w.heap.size (fun k_ => k_ ≠ gb276 ∧ k_ ≠ gb278 ∧ k_ ≠ s_) (.slice Ao13 x279000_1.length co13) x279000_1) ∧ (w'.heap[gb276]? = some (.cells #[.int .u64 a1_0, .int .u64 a1_1] 34 (0, 0))) ∧ (w'.heap[gb278]? = some (.cells #[.slice Ao13 x279000_1.length co13] 26 (0, 0))) ∧ (w'.heap[s_]? = some (.cells #[.int .i64 0, .string (⟨#[]⟩ : ByteArray), .int .u64 0, .bool false, .bool false] 30 (0, 0))) ∧ (w.heap.size ≤ s_) ∧ (w.heap.size ≤ s_) ∧ (gb276 ≠ s_) ∧ (s_ ≠ gb276) ∧ (gb278 ≠ s_) ∧ (s_ ≠ gb278) ∧ (Below w.heap.size w w')) ?_ ?_
                      rotate_left
                      · intro hJ10
                        refine three_ (i := 5) (j := 9) (k := 10) (Ni := some 26) (Nj := some 10) (Nk := some 11) bN13_ bN11_ bN12_ rfl rfl rfl rfl rfl rfl (three_of HT_.out (by kernel_rfl)) (by decide) (by decide) (by decide) (fun K hK => ?_) (fun K hK => ?_) (fun K hK => ?_)
                        · skip
                          refine goes_ Try.func9 (by kernel_rfl) rfl #[.agg #[.slice Ao13 x279000_1.length co13], .agg #[.int .i64 ((rd_T38 l0 x9_1).f0), .int .u64 ((rd_T38 l0 x9_1).f1.f0), .int .u64 ((rd_T38 l0 x9_1).f1.f1), .string ((rd_T38 l0 x9_1).f2), .slice A279_4 ((rd_T38 l0 x9_1).f3).length c279_4, .bool ((rd_T38 l0 x9_1).f4), .slice A279_6 ((rd_T38 l0 x9_1).f5).length c279_6]] (by rfl) rfl rfl (by (try simp only [List.map_toArray, List.map_cons, List.map_nil]); first | done | rfl | (simp only [List.length_drop, List.length_take]; rfl)) ?_
                          with_reducible refine (coord_Do.calls k1 (fun k_ => (k_ ≠ gb276 ∧ k_ ≠ gb278)) _ _ x279000_1 ((rd_T38 l0 x9_1).f0) ((rd_T38 l0 x9_1).f1.f0) ((rd_T38 l0 x9_1).f1.f1) ((rd_T38 l0 x9_1).f2) _ _ ((rd_T38 l0 x9_1).f3) ((rd_T38 l0 x9_1).f4) _ _ ((rd_T38 l0 x9_1).f5) t280 t283 t284 t285 t286 t287 _ ?side1 ?side2 ?side3 ?side4 ?side5 A11.out).mono ?_
                          (case side1 => exact HO_279000.out)
                          (case side2 => repeat (first | exact (Kd.C_below HR279_4.out HB.out) | (with_reducible refine Kd.C_alloc ?_ _) | (with_reducible refine Kd.C_drewN ?_ _) | (with_reducible refine Kd.C_drew ?_)))
                          (case side3 => exact HC279_4.out)
                          (case side4 => repeat (first | exact (Kd.C_below HR279_6.out HB.out) | (with_reducible refine Kd.C_alloc ?_ _) | (with_reducible refine Kd.C_drewN ?_ _) | (with_reducible refine Kd.C_drew ?_)))
                          (case side5 => exact HC279_6.out)
                          rintro e w15 ⟨v281, rfl, ho0, hb⟩
                          refine ⟨_, rfl, ?_⟩
                          have n0_ := am_ (Kd.V_below (vx_ HO_279000) hb)
                          have n1_ := am_ (Kd.V_lower (Kd.V_mono (ok' := fun k_ => k_ ≠ gb276 ∧ k_ ≠ gb278) ho0 (fun k_ hk_ => ⟨Or.elim hk_ (fun hs_ => hs_.1) (fun hn_ => (Kd.freshB (g := gb276) (o := .cells #[.int .u64 a1_0, .int .u64 a1_1] 34 (0, 0)) (bx_ BK276) k_ hn_)), Or.elim hk_ (fun hs_ => hs_.2) (fun hn_ => (Kd.freshB (g := gb278) (o := .cells #[.slice Ao13 x279000_1.length co13] 26 (0, 0)) (bx_ BK278) k_ hn_))⟩)) (below_size (hx_ HB)))
                          have n2_ := am_ (blk_below (g := gb276) (o := .cells #[.int .u64 a1_0, .int .u64 a1_1] 34 (0, 0)) (bx_ BK276) hb)
                          have n3_ := am_ (blk_below (g := gb278) (o := .cells #[.slice Ao13 x279000_1.length co13] 26 (0, 0)) (bx_ BK278) hb)
                          have n4_ := am_ (below_step (hx_ HB) hb)
                          clear HO_279000
                          clear BK276
                          clear BK278
                          clear HB
                          have HO_279000 := n0_
                          have HO282 := n1_
                          have BK276 := n2_
                          have BK278 := n3_
                          have HB := n4_
                          clear n0_ n1_ n2_ n3_ n4_
                          (try clear hb)
                          (try clear hb2)
                          (try clear hk)
                          (try clear hi)
                          (try clear ho0)
                          refine hK.out _ _ ⟨(blk_cell BK278.out 0).trans rfl, ((HB.out.cell (World.block_lt_of_cell? w _ hw279_0)).trans hw279_0), ((HB.out.cell (World.block_lt_of_cell? w _ hw279_1)).trans hw279_1), ((HB.out.cell (World.block_lt_of_cell? w _ hw279_2)).trans hw279_2), ((HB.out.cell (World.block_lt_of_cell? w _ hw279_3)).trans hw279_3), ((HB.out.cell (World.block_lt_of_cell? w _ hw279_4)).trans hw279_4), ((HB.out.cell (World.block_lt_of_cell? w _ hw279_5)).trans hw279_5), ((HB.out.cell (World.block_lt_of_cell? w _ hw279_6)).trans hw279_6)⟩ (fun hHeld => ?_)
                          clear hK K
                          refine norm_ (a' := ?_) ?_ ?_
                          rotate_left
                          · show Act.put _ (some 26) _ = _
                            simp only [Act.put, List.setIfInBounds_toArray, List.set_cons_zero, List.set_cons_succ, i64_w, i32_w]
                            rfl
                          refine pure_ (i := 6) (N := some 20) (v := ?_) (a' := ?_) bN14_ rfl rfl (any_of HT_.out (by kernel_rfl)) (fun _ _ _ h => h) (Or.inl ⟨by rfl, ?_⟩) ?_ ?_
                          rotate_left
                          · intro w'
                            go_simp
                            with_reducible rfl
                          rotate_left
                          · simp only [Act.put, List.setIfInBounds_toArray, List.set_cons_zero, List.set_cons_succ, i64_w, i32_w]
                            rfl
                          refine pure_ (i := 7) (N := some 27) (v := ?_) (a' := ?_) bN15_ rfl rfl (any_of HT_.out (by kernel_rfl)) (fun _ _ _ h => h) (Or.inl ⟨by rfl, ?_⟩) ?_ ?_
                          rotate_left
                          · intro w'
                            go_simp
                            with_reducible rfl
                          rotate_left
                          · simp only [Act.put, List.setIfInBounds_toArray, List.set_cons_zero, List.set_cons_succ, i64_w, i32_w]
                            rfl
                          refine pure_ (i := 8) (N := some 28) (v := ?_) (a' := ?_) bN10_ rfl rfl (any_of HT_.out (by kernel_rfl)) (fun _ _ _ h => h) (Or.inl ⟨by rfl, ?_⟩) ?_ ?_
                          rotate_left
                          · intro w'
                            go_simp
                            with_reducible rfl
                          rotate_left
                          · simp only [Act.put, List.setIfInBounds_toArray, List.set_cons_zero, List.set_cons_succ, i64_w, i32_w]
                            rfl
                          exact norm_ (by first | (simp only [putAll, Act.put, List.setIfInBounds_toArray, List.set_cons_zero, List.set_cons_succ]; done) | (simp only [putAll, Act.put, List.setIfInBounds_toArray, List.set_cons_zero, List.set_cons_succ]; rfl)) (hJ5 (v281) _ ⟨hHeld, (vx_ HO282), (vx_ HO_279000), (bx_ BK276), (bx_ BK278), (hx_ HB)⟩)
                        · skip
                          refine box_step ?hg (N := 10) ?hd (cs := #[.slice none 0 0]) (t := 26) ?hr ?_; (case hd => rfl); (case hg => rfl); (case hr => first | (go_simp; done) | (go_simp; rfl))
                          intro gb288 hg w15 hbox hb
                          have n0_ := am_ (Kd.V_below (Kd.V_elderB (vx_ HO_279000) gb288 (Nat.le_of_eq hg.symm)) hb)
                          have n1_ := am_ (blk_below (g := gb276) (o := .cells #[.int .u64 a1_0, .int .u64 a1_1] 34 (0, 0)) (bx_ BK276) hb)
                          have n2_ := am_ (blk_below (g := gb278) (o := .cells #[.slice Ao13 x279000_1.length co13] 26 (0, 0)) (bx_ BK278) hb)
                          have n3_ := am_ (below_step (hx_ HB) hb)
                          have n4_ := am_ (hbox)
                          have n5_ := am_ ((by rw [hg]; exact (below_size (hx_ HB)) : w.heap.size ≤ gb288))
                          have n6_ := am_ ((by rw [hg]; exact (below_size (hx_ HB)) : w.heap.size ≤ gb288))
                          have n7_ := am_ ((by rw [hg]; exact Nat.ne_of_lt (blk_lt (g := gb276) (o := .cells #[.int .u64 a1_0, .int .u64 a1_1] 34 (0, 0)) (bx_ BK276)) : gb276 ≠ gb288))
                          have n8_ := am_ ((by rw [hg]; exact Nat.ne_of_gt (blk_lt (g := gb276) (o := .cells #[.int .u64 a1_0, .int .u64 a1_1] 34 (0, 0)) (bx_ BK276)) : gb288 ≠ gb276))
                          have n9_ := am_ ((by rw [hg]; exact Nat.ne_of_lt (blk_lt (g := gb278) (o := .cells #[.slice Ao13 x279000_1.length co13] 26 (0, 0)) (bx_ BK278)) : gb278 ≠ gb288))
                          have n10_ := am_ ((by rw [hg]; exact Nat.ne_of_gt (blk_lt (g := gb278) (o := .cells #[.slice Ao13 x279000_1.length co13] 26 (0, 0)) (bx_ BK278)) : gb288 ≠ gb278))
                          clear HO_279000
                          clear BK276
                          clear BK278
                          clear HB
                          have HO_279000 := n0_
                          have BK276 := n1_
                          have BK278 := n2_
                          have HB := n3_
                          have BK288 := n4_
                          have GW288 := n5_
                          have GE288 := n6_
                          have NB276_288 := n7_
                          have NB288_276 := n8_
                          have NB278_288 := n9_
                          have NB288_278 := n10_
                          clear n0_ n1_ n2_ n3_ n4_ n5_ n6_ n7_ n8_ n9_ n10_
                          clear hb hbox hg
                          refine hK.out _ _ ⟨(blk_cell BK278.out 0).trans rfl, ((HB.out.cell (World.block_lt_of_cell? w _ hw279_0)).trans hw279_0), ((HB.out.cell (World.block_lt_of_cell? w _ hw279_1)).trans hw279_1), ((HB.out.cell (World.block_lt_of_cell? w _ hw279_2)).trans hw279_2), ((HB.out.cell (World.block_lt_of_cell? w _ hw279_3)).trans hw279_3), ((HB.out.cell (World.block_lt_of_cell? w _ hw279_4)).trans hw279_4), ((HB.out.cell (World.block_lt_of_cell? w _ hw279_5)).trans hw279_5), ((HB.out.cell (World.block_lt_of_cell? w _ hw279_6)).trans hw279_6)⟩ (fun hHeld => ?_)
                          clear hK K
                          refine norm_ (a' := ?_) ?_ ?_
                          rotate_left
                          · show Act.put _ (some 10) _ = _
                            simp only [Act.put, List.setIfInBounds_toArray, List.set_cons_zero, List.set_cons_succ, i64_w, i32_w]
                            rfl
                          exact norm_ (by first | (simp only [putAll, Act.put, List.setIfInBounds_toArray, List.set_cons_zero, List.set_cons_succ]; done) | (simp only [putAll, Act.put, List.setIfInBounds_toArray, List.set_cons_zero, List.set_cons_succ]; rfl)) (hJ9 (gb288) _ ⟨hHeld, (by (with_reducible repeat (first | apply Kd.V_alloc | apply Kd.V_drewN | apply Kd.V_drew)); exact Kd.V_mono HO_279000.out (fun _ hk => ⟨hk.1.1, ⟨hk.1.2, hk.2⟩⟩)), (bx_ BK276), (bx_ BK278), (bx_ BK288), GW288.out, GE288.out, NB276_288.out, NB288_276.out, NB278_288.out, NB288_278.out, (hx_ HB)⟩)
                        · skip
                          refine box_step ?hg (N := 11) ?hd (cs := #[.int .i64 0, .string (⟨#[]⟩ : ByteArray), .int .u64 0, .bool false, .bool false]) (t := 30) ?hr ?_; (case hd => rfl); (case hg => rfl); (case hr => first | (go_simp; done) | (go_simp; rfl))
                          intro gb289 hg w15 hbox hb
                          have n0_ := am_ (Kd.V_below (Kd.V_elderB (vx_ HO_279000) gb289 (Nat.le_of_eq hg.symm)) hb)
                          have n1_ := am_ (blk_below (g := gb276) (o := .cells #[.int .u64 a1_0, .int .u64 a1_1] 34 (0, 0)) (bx_ BK276) hb)
                          have n2_ := am_ (blk_below (g := gb278) (o := .cells #[.slice Ao13 x279000_1.length co13] 26 (0, 0)) (bx_ BK278) hb)
                          have n3_ := am_ (below_step (hx_ HB) hb)
                          have n4_ := am_ (hbox)
                          have n5_ := am_ ((by rw [hg]; exact (below_size (hx_ HB)) : w.heap.size ≤ gb289))
                          have n6_ := am_ ((by rw [hg]; exact (below_size (hx_ HB)) : w.heap.size ≤ gb289))
                          have n7_ := am_ ((by rw [hg]; exact Nat.ne_of_lt (blk_lt (g := gb276) (o := .cells #[.int .u64 a1_0, .int .u64 a1_1] 34 (0, 0)) (bx_ BK276)) : gb276 ≠ gb289))
                          have n8_ := am_ ((by rw [hg]; exact Nat.ne_of_gt (blk_lt (g := gb276) (o := .cells #[.int .u64 a1_0, .int .u64 a1_1] 34 (0, 0)) (bx_ BK276)) : gb289 ≠ gb276))
                          have n9_ := am_ ((by rw [hg]; exact Nat.ne_of_lt (blk_lt (g := gb278) (o := .cells #[.slice Ao13 x279000_1.length co13] 26 (0, 0)) (bx_ BK278)) : gb278 ≠ gb289))
                          have n10_ := am_ ((by rw [hg]; exact Nat.ne_of_gt (blk_lt (g := gb278) (o := .cells #[.slice Ao13 x279000_1.length co13] 26 (0, 0)) (bx_ BK278)) : gb289 ≠ gb278))
                          clear HO_279000
                          clear BK276
                          clear BK278
                          clear HB
                          have HO_279000 := n0_
                          have BK276 := n1_
                          have BK278 := n2_
                          have HB := n3_
                          have BK289 := n4_
                          have GW289 := n5_
                          have GE289 := n6_
                          have NB276_289 := n7_
                          have NB289_276 := n8_
                          have NB278_289 := n9_
                          have NB289_278 := n10_
                          clear n0_ n1_ n2_ n3_ n4_ n5_ n6_ n7_ n8_ n9_ n10_
                          clear hb hbox hg
                          refine hK.out _ _ ⟨(blk_cell BK278.out 0).trans rfl, ((HB.out.cell (World.block_lt_of_cell? w _ hw279_0)).trans hw279_0), ((HB.out.cell (World.block_lt_of_cell? w _ hw279_1)).trans hw279_1), ((HB.out.cell (World.block_lt_of_cell? w _ hw279_2)).trans hw279_2), ((HB.out.cell (World.block_lt_of_cell? w _ hw279_3)).trans hw279_3), ((HB.out.cell (World.block_lt_of_cell? w _ hw279_4)).trans hw279_4), ((HB.out.cell (World.block_lt_of_cell? w _ hw279_5)).trans hw279_5), ((HB.out.cell (World.block_lt_of_cell? w _ hw279_6)).trans hw279_6)⟩ (fun hHeld => ?_)
                          clear hK K
                          refine norm_ (a' := ?_) ?_ ?_
                          rotate_left
                          · show Act.put _ (some 11) _ = _
                            simp only [Act.put, List.setIfInBounds_toArray, List.set_cons_zero, List.set_cons_succ, i64_w, i32_w]
                            rfl
                          exact norm_ (by first | (simp only [putAll, Act.put, List.setIfInBounds_toArray, List.set_cons_zero, List.set_cons_succ]; done) | (simp only [putAll, Act.put, List.setIfInBounds_toArray, List.set_cons_zero, List.set_cons_succ]; rfl)) (hJ10 (gb289) _ ⟨hHeld, (by (with_reducible repeat (first | apply Kd.V_alloc | apply Kd.V_drewN | apply Kd.V_drew)); exact Kd.V_mono HO_279000.out (fun _ hk => ⟨hk.1.1, ⟨hk.1.2, hk.2⟩⟩)), (bx_ BK276), (bx_ BK278), (bx_ BK289), GW289.out, GE289.out, NB276_289.out, NB289_276.out, NB278_289.out, NB289_278.out, (hx_ HB)⟩)
                      · skip
                        rintro gb289 w16 ⟨hS_, h0_, h1_, h2_, h3_, h4_, h5_, h6_, h7_, h8_, h9_, h10_⟩
                        have n0_ : Aside0 (Kd.V k42 42 w16 w.heap.size (fun k_ => k_ ≠ gb276 ∧ k_ ≠ gb278 ∧ k_ ≠ gb289) (.slice Ao13 x279000_1.length co13) x279000_1) := ⟨h0_⟩
                        have n1_ : Aside0 (w16.heap[gb276]? = some (.cells #[.int .u64 a1_0, .int .u64 a1_1] 34 (0, 0))) := ⟨h1_⟩
                        have n2_ : Aside0 (w16.heap[gb278]? = some (.cells #[.slice Ao13 x279000_1.length co13] 26 (0, 0))) := ⟨h2_⟩
                        have n3_ : Aside0 (w16.heap[gb289]? = some (.cells #[.int .i64 0, .string (⟨#[]⟩ : ByteArray), .int .u64 0, .bool false, .bool false] 30 (0, 0))) := ⟨h3_⟩
                        have n4_ : Aside0 (w.heap.size ≤ gb289) := ⟨h4_⟩
                        have n5_ : Aside0 (w.heap.size ≤ gb289) := ⟨h5_⟩
                        have n6_ : Aside0 (gb276 ≠ gb289) := ⟨h6_⟩
                        have n7_ : Aside0 (gb289 ≠ gb276) := ⟨h7_⟩
                        have n8_ : Aside0 (gb278 ≠ gb289) := ⟨h8_⟩
                        have n9_ : Aside0 (gb289 ≠ gb278) := ⟨h9_⟩
                        have n10_ : Aside0 (Below w.heap.size w w16) := ⟨h10_⟩
                        clear HO_279000
                        clear BK276
                        clear BK278
                        clear HB
                        clear h0_ h1_ h2_ h3_ h4_ h5_ h6_ h7_ h8_ h9_ h10_
                        have HO_279000 := n0_
                        have BK276 := n1_
                        have BK278 := n2_
                        have BK289 := n3_
                        have GW289 := n4_
                        have GE289 := n5_
                        have NB276_289 := n6_
                        have NB289_276 := n7_
                        have NB278_289 := n8_
                        have NB289_278 := n9_
                        have HB := n10_
                        clear n0_ n1_ n2_ n3_ n4_ n5_ n6_ n7_ n8_ n9_ n10_
                        have hHeld : w16.cell? ⟨gb278, 0, none⟩ = some (.slice Ao13 x279000_1.length co13) ∧ w16.cell? (ad279.add ((x9_1).toNat * 7)) = some (.int .i64 ((rd_T38 l0 x9_1).f0)) ∧ w16.cell? ⟨(ad279.add ((x9_1).toNat * 7)).block, (ad279.add ((x9_1).toNat * 7)).off + 1, none⟩ = some (.int .u64 ((rd_T38 l0 x9_1).f1.f0)) ∧ w16.cell? ⟨(ad279.add ((x9_1).toNat * 7)).block, (ad279.add ((x9_1).toNat * 7)).off + 2, none⟩ = some (.int .u64 ((rd_T38 l0 x9_1).f1.f1)) ∧ w16.cell? ⟨(ad279.add ((x9_1).toNat * 7)).block, (ad279.add ((x9_1).toNat * 7)).off + 3, none⟩ = some (.string ((rd_T38 l0 x9_1).f2)) ∧ w16.cell? ⟨(ad279.add ((x9_1).toNat * 7)).block, (ad279.add ((x9_1).toNat * 7)).off + 4, none⟩ = some (.slice A279_4 ((rd_T38 l0 x9_1).f3).length c279_4) ∧ w16.cell? ⟨(ad279.add ((x9_1).toNat * 7)).block, (ad279.add ((x9_1).toNat * 7)).off + 5, none⟩ = some (.bool ((rd_T38 l0 x9_1).f4)) ∧ w16.cell? ⟨(ad279.add ((x9_1).toNat * 7)).block, (ad279.add ((x9_1).toNat * 7)).off + 6, none⟩ = some (.slice A279_6 ((rd_T38 l0 x9_1).f5).length c279_6) := hS_
                        refine norm_ (a' := ?_) ?_ ?_
                        rotate_left
                        · simp only [putAll, Act.put, List.setIfInBounds_toArray, List.set_cons_zero, List.set_cons_succ]
                          rfl
                        refine two_ (i := 5) (j := 9) (Ni := some 26) (Nj := some 10) bN16_ bN9_ rfl rfl rfl rfl (two_of HT_.out (by kernel_rfl)) (by decide) (by decide) (fun K hK => ?_) (fun K hK => ?_)
                        · skip
                          refine goes_ Try.func9 (by kernel_rfl) rfl #[.agg #[.slice Ao13 x279000_1.length co13], .agg #[.int .i64 ((rd_T38 l0 x9_1).f0), .int .u64 ((rd_T38 l0 x9_1).f1.f0), .int .u64 ((rd_T38 l0 x9_1).f1.f1), .string ((rd_T38 l0 x9_1).f2), .slice A279_4 ((rd_T38 l0 x9_1).f3).length c279_4, .bool ((rd_T38 l0 x9_1).f4), .slice A279_6 ((rd_T38 l0 x9_1).f5).length c279_6]] (by rfl) rfl rfl (by (try simp only [List.map_toArray, List.map_cons, List.map_nil]); first | done | rfl | (simp only [List.length_drop, List.length_take]; rfl)) ?_
                          with_reducible refine (coord_Do.calls k1 (fun k_ => (k_ ≠ gb276 ∧ (k_ ≠ gb278 ∧ k_ ≠ gb289))) _ _ x279000_1 ((rd_T38 l0 x9_1).f0) ((rd_T38 l0 x9_1).f1.f0) ((rd_T38 l0 x9_1).f1.f1) ((rd_T38 l0 x9_1).f2) _ _ ((rd_T38 l0 x9_1).f3) ((rd_T38 l0 x9_1).f4) _ _ ((rd_T38 l0 x9_1).f5) t280 t283 t284 t285 t286 t287 _ ?side1 ?side2 ?side3 ?side4 ?side5 A11.out).mono ?_
                          (case side1 => exact HO_279000.out)
                          (case side2 => repeat (first | exact (Kd.C_below HR279_4.out HB.out) | (with_reducible refine Kd.C_alloc ?_ _) | (with_reducible refine Kd.C_drewN ?_ _) | (with_reducible refine Kd.C_drew ?_)))
                          (case side3 => exact HC279_4.out)
                          (case side4 => repeat (first | exact (Kd.C_below HR279_6.out HB.out) | (with_reducible refine Kd.C_alloc ?_ _) | (with_reducible refine Kd.C_drewN ?_ _) | (with_reducible refine Kd.C_drew ?_)))
                          (case side5 => exact HC279_6.out)
                          rintro e w17 ⟨v281, rfl, ho0, hb⟩
                          refine ⟨_, rfl, ?_⟩
                          have n0_ := am_ (Kd.V_below (vx_ HO_279000) hb)
                          have n1_ := am_ (Kd.V_lower (Kd.V_mono (ok' := fun k_ => k_ ≠ gb276 ∧ k_ ≠ gb278 ∧ k_ ≠ gb289) ho0 (fun k_ hk_ => ⟨Or.elim hk_ (fun hs_ => hs_.1) (fun hn_ => (Kd.freshB (g := gb276) (o := .cells #[.int .u64 a1_0, .int .u64 a1_1] 34 (0, 0)) (bx_ BK276) k_ hn_)), Or.elim hk_ (fun hs_ => hs_.2.1) (fun hn_ => (Kd.freshB (g := gb278) (o := .cells #[.slice Ao13 x279000_1.length co13] 26 (0, 0)) (bx_ BK278) k_ hn_)), Or.elim hk_ (fun hs_ => hs_.2.2) (fun hn_ => (Kd.freshB (g := gb289) (o := .cells #[.int .i64 0, .string (⟨#[]⟩ : ByteArray), .int .u64 0, .bool false, .bool false] 30 (0, 0)) (bx_ BK289) k_ hn_))⟩)) (below_size (hx_ HB)))
                          have n2_ := am_ (blk_below (g := gb276) (o := .cells #[.int .u64 a1_0, .int .u64 a1_1] 34 (0, 0)) (bx_ BK276) hb)
                          have n3_ := am_ (blk_below (g := gb278) (o := .cells #[.slice Ao13 x279000_1.length co13] 26 (0, 0)) (bx_ BK278) hb)
                          have n4_ := am_ (blk_below (g := gb289) (o := .cells #[.int .i64 0, .string (⟨#[]⟩ : ByteArray), .int .u64 0, .bool false, .bool false] 30 (0, 0)) (bx_ BK289) hb)
                          have n5_ := am_ (below_step (hx_ HB) hb)
                          clear HO_279000
                          clear BK276
                          clear BK278
                          clear BK289
                          clear HB
                          have HO_279000 := n0_
                          have HO282 := n1_
                          have BK276 := n2_
                          have BK278 := n3_
                          have BK289 := n4_
                          have HB := n5_
                          clear n0_ n1_ n2_ n3_ n4_ n5_
                          (try clear hb)
                          (try clear hb2)
                          (try clear hk)
                          (try clear hi)
                          (try clear ho0)
                          refine hK.out _ _ ⟨(blk_cell BK278.out 0).trans rfl, ((HB.out.cell (World.block_lt_of_cell? w _ hw279_0)).trans hw279_0), ((HB.out.cell (World.block_lt_of_cell? w _ hw279_1)).trans hw279_1), ((HB.out.cell (World.block_lt_of_cell? w _ hw279_2)).trans hw279_2), ((HB.out.cell (World.block_lt_of_cell? w _ hw279_3)).trans hw279_3), ((HB.out.cell (World.block_lt_of_cell? w _ hw279_4)).trans hw279_4), ((HB.out.cell (World.block_lt_of_cell? w _ hw279_5)).trans hw279_5), ((HB.out.cell (World.block_lt_of_cell? w _ hw279_6)).trans hw279_6)⟩ (fun hHeld => ?_)
                          clear hK K
                          refine norm_ (a' := ?_) ?_ ?_
                          rotate_left
                          · show Act.put _ (some 26) _ = _
                            simp only [Act.put, List.setIfInBounds_toArray, List.set_cons_zero, List.set_cons_succ, i64_w, i32_w]
                            rfl
                          refine pure_ (i := 6) (N := some 20) (v := ?_) (a' := ?_) bN17_ rfl rfl (any_of HT_.out (by kernel_rfl)) (fun _ _ _ h => h) (Or.inl ⟨by rfl, ?_⟩) ?_ ?_
                          rotate_left
                          · intro w'
                            go_simp
                            with_reducible rfl
                          rotate_left
                          · simp only [Act.put, List.setIfInBounds_toArray, List.set_cons_zero, List.set_cons_succ, i64_w, i32_w]
                            rfl
                          refine pure_ (i := 7) (N := some 27) (v := ?_) (a' := ?_) bN18_ rfl rfl (any_of HT_.out (by kernel_rfl)) (fun _ _ _ h => h) (Or.inl ⟨by rfl, ?_⟩) ?_ ?_
                          rotate_left
                          · intro w'
                            go_simp
                            with_reducible rfl
                          rotate_left
                          · simp only [Act.put, List.setIfInBounds_toArray, List.set_cons_zero, List.set_cons_succ, i64_w, i32_w]
                            rfl
                          refine pure_ (i := 8) (N := some 28) (v := ?_) (a' := ?_) bN8_ rfl rfl (any_of HT_.out (by kernel_rfl)) (fun _ _ _ h => h) (Or.inl ⟨by rfl, ?_⟩) ?_ ?_
                          rotate_left
                          · intro w'
                            go_simp
                            with_reducible rfl
                          rotate_left
                          · simp only [Act.put, List.setIfInBounds_toArray, List.set_cons_zero, List.set_cons_succ, i64_w, i32_w]
                            rfl
                          exact norm_ (by first | (simp only [putAll, Act.put, List.setIfInBounds_toArray, List.set_cons_zero, List.set_cons_succ]; done) | (simp only [putAll, Act.put, List.setIfInBounds_toArray, List.set_cons_zero, List.set_cons_succ]; rfl)) (hJ5_10 (v281, gb289) _ ⟨hHeld, (vx_ HO282), (vx_ HO_279000), (bx_ BK276), (bx_ BK278), (bx_ BK289), GW289.out, GE289.out, NB276_289.out, NB289_276.out, NB278_289.out, NB289_278.out, (hx_ HB)⟩)
                        · skip
                          refine box_step ?hg (N := 10) ?hd (cs := #[.slice none 0 0]) (t := 26) ?hr ?_; (case hd => rfl); (case hg => rfl); (case hr => first | (go_simp; done) | (go_simp; rfl))
                          intro gb288 hg w17 hbox hb
                          have n0_ := am_ (Kd.V_below (Kd.V_elderB (vx_ HO_279000) gb288 (Nat.le_of_eq hg.symm)) hb)
                          have n1_ := am_ (blk_below (g := gb276) (o := .cells #[.int .u64 a1_0, .int .u64 a1_1] 34 (0, 0)) (bx_ BK276) hb)
                          have n2_ := am_ (blk_below (g := gb278) (o := .cells #[.slice Ao13 x279000_1.length co13] 26 (0, 0)) (bx_ BK278) hb)
                          have n3_ := am_ (blk_below (g := gb289) (o := .cells #[.int .i64 0, .string (⟨#[]⟩ : ByteArray), .int .u64 0, .bool false, .bool false] 30 (0, 0)) (bx_ BK289) hb)
                          have n4_ := am_ (below_step (hx_ HB) hb)
                          have n5_ := am_ (hbox)
                          have n6_ := am_ ((by rw [hg]; exact (below_size (hx_ HB)) : w.heap.size ≤ gb288))
                          have n7_ := am_ ((by rw [hg]; exact (below_size (hx_ HB)) : w.heap.size ≤ gb288))
                          have n8_ := am_ ((by rw [hg]; exact Nat.ne_of_lt (blk_lt (g := gb276) (o := .cells #[.int .u64 a1_0, .int .u64 a1_1] 34 (0, 0)) (bx_ BK276)) : gb276 ≠ gb288))
                          have n9_ := am_ ((by rw [hg]; exact Nat.ne_of_gt (blk_lt (g := gb276) (o := .cells #[.int .u64 a1_0, .int .u64 a1_1] 34 (0, 0)) (bx_ BK276)) : gb288 ≠ gb276))
                          have n10_ := am_ ((by rw [hg]; exact Nat.ne_of_lt (blk_lt (g := gb278) (o := .cells #[.slice Ao13 x279000_1.length co13] 26 (0, 0)) (bx_ BK278)) : gb278 ≠ gb288))
                          have n11_ := am_ ((by rw [hg]; exact Nat.ne_of_gt (blk_lt (g := gb278) (o := .cells #[.slice Ao13 x279000_1.length co13] 26 (0, 0)) (bx_ BK278)) : gb288 ≠ gb278))
                          have n12_ := am_ ((by rw [hg]; exact Nat.ne_of_lt (blk_lt (g := gb289) (o := .cells #[.int .i64 0, .string (⟨#[]⟩ : ByteArray), .int .u64 0, .bool false, .bool false] 30 (0, 0)) (bx_ BK289)) : gb289 ≠ gb288))
                          have n13_ := am_ ((by rw [hg]; exact Nat.ne_of_gt (blk_lt (g := gb289) (o := .cells #[.int .i64 0, .string (⟨#[]⟩ : ByteArray), .int .u64 0, .bool false, .bool false] 30 (0, 0)) (bx_ BK289)) : gb288 ≠ gb289))
                          clear HO_279000
                          clear BK276
                          clear BK278
                          clear BK289
                          clear HB
                          have HO_279000 := n0_
                          have BK276 := n1_
                          have BK278 := n2_
                          have BK289 := n3_
                          have HB := n4_
                          have BK288 := n5_
                          have GW288 := n6_
                          have GE288 := n7_
                          have NB276_288 := n8_
                          have NB288_276 := n9_
                          have NB278_288 := n10_
                          have NB288_278 := n11_
                          have NB289_288 := n12_
                          have NB288_289 := n13_
                          clear n0_ n1_ n2_ n3_ n4_ n5_ n6_ n7_ n8_ n9_ n10_ n11_ n12_ n13_
                          clear hb hbox hg
                          refine hK.out _ _ ⟨(blk_cell BK278.out 0).trans rfl, ((HB.out.cell (World.block_lt_of_cell? w _ hw279_0)).trans hw279_0), ((HB.out.cell (World.block_lt_of_cell? w _ hw279_1)).trans hw279_1), ((HB.out.cell (World.block_lt_of_cell? w _ hw279_2)).trans hw279_2), ((HB.out.cell (World.block_lt_of_cell? w _ hw279_3)).trans hw279_3), ((HB.out.cell (World.block_lt_of_cell? w _ hw279_4)).trans hw279_4), ((HB.out.cell (World.block_lt_of_cell? w _ hw279_5)).trans hw279_5), ((HB.out.cell (World.block_lt_of_cell? w _ hw279_6)).trans hw279_6)⟩ (fun hHeld => ?_)
                          clear hK K
                          refine norm_ (a' := ?_) ?_ ?_
                          rotate_left
                          · show Act.put _ (some 10) _ = _
                            simp only [Act.put, List.setIfInBounds_toArray, List.set_cons_zero, List.set_cons_succ, i64_w, i32_w]
                            rfl
                          exact norm_ (by first | (simp only [putAll, Act.put, List.setIfInBounds_toArray, List.set_cons_zero, List.set_cons_succ]; done) | (simp only [putAll, Act.put, List.setIfInBounds_toArray, List.set_cons_zero, List.set_cons_succ]; rfl)) (hJ9_10 (gb288, gb289) _ ⟨hHeld, (by (with_reducible repeat (first | apply Kd.V_alloc | apply Kd.V_drewN | apply Kd.V_drew)); exact Kd.V_mono HO_279000.out (fun _ hk => ⟨hk.1.1, ⟨hk.1.2.1, ⟨hk.2, hk.1.2.2⟩⟩⟩)), (bx_ BK276), (bx_ BK278), (bx_ BK288), (bx_ BK289), GW288.out, GE288.out, NB276_288.out, NB288_276.out, NB278_288.out, NB288_278.out, NB289_288.out, NB288_289.out, GW289.out, GE289.out, NB276_289.out, NB289_276.out, NB278_289.out, NB289_278.out, (hx_ HB)⟩)
                    · skip
                      rintro gb288 w16 ⟨hS_, h0_, h1_, h2_, h3_, h4_, h5_, h6_, h7_, h8_, h9_, h10_⟩
                      have n0_ : Aside0 (Kd.V k42 42 w16 w.heap.size (fun k_ => k_ ≠ gb276 ∧ k_ ≠ gb278 ∧ k_ ≠ gb288) (.slice Ao13 x279000_1.length co13) x279000_1) := ⟨h0_⟩
                      have n1_ : Aside0 (w16.heap[gb276]? = some (.cells #[.int .u64 a1_0, .int .u64 a1_1] 34 (0, 0))) := ⟨h1_⟩
                      have n2_ : Aside0 (w16.heap[gb278]? = some (.cells #[.slice Ao13 x279000_1.length co13] 26 (0, 0))) := ⟨h2_⟩
                      have n3_ : Aside0 (w16.heap[gb288]? = some (.cells #[.slice none 0 0] 26 (0, 0))) := ⟨h3_⟩
                      have n4_ : Aside0 (w.heap.size ≤ gb288) := ⟨h4_⟩
                      have n5_ : Aside0 (w.heap.size ≤ gb288) := ⟨h5_⟩
                      have n6_ : Aside0 (gb276 ≠ gb288) := ⟨h6_⟩
                      have n7_ : Aside0 (gb288 ≠ gb276) := ⟨h7_⟩
                      have n8_ : Aside0 (gb278 ≠ gb288) := ⟨h8_⟩
                      have n9_ : Aside0 (gb288 ≠ gb278) := ⟨h9_⟩
                      have n10_ : Aside0 (Below w.heap.size w w16) := ⟨h10_⟩
                      clear HO_279000
                      clear BK276
                      clear BK278
                      clear HB
                      clear h0_ h1_ h2_ h3_ h4_ h5_ h6_ h7_ h8_ h9_ h10_
                      have HO_279000 := n0_
                      have BK276 := n1_
                      have BK278 := n2_
                      have BK288 := n3_
                      have GW288 := n4_
                      have GE288 := n5_
                      have NB276_288 := n6_
                      have NB288_276 := n7_
                      have NB278_288 := n8_
                      have NB288_278 := n9_
                      have HB := n10_
                      clear n0_ n1_ n2_ n3_ n4_ n5_ n6_ n7_ n8_ n9_ n10_
                      have hHeld : w16.cell? ⟨gb278, 0, none⟩ = some (.slice Ao13 x279000_1.length co13) ∧ w16.cell? (ad279.add ((x9_1).toNat * 7)) = some (.int .i64 ((rd_T38 l0 x9_1).f0)) ∧ w16.cell? ⟨(ad279.add ((x9_1).toNat * 7)).block, (ad279.add ((x9_1).toNat * 7)).off + 1, none⟩ = some (.int .u64 ((rd_T38 l0 x9_1).f1.f0)) ∧ w16.cell? ⟨(ad279.add ((x9_1).toNat * 7)).block, (ad279.add ((x9_1).toNat * 7)).off + 2, none⟩ = some (.int .u64 ((rd_T38 l0 x9_1).f1.f1)) ∧ w16.cell? ⟨(ad279.add ((x9_1).toNat * 7)).block, (ad279.add ((x9_1).toNat * 7)).off + 3, none⟩ = some (.string ((rd_T38 l0 x9_1).f2)) ∧ w16.cell? ⟨(ad279.add ((x9_1).toNat * 7)).block, (ad279.add ((x9_1).toNat * 7)).off + 4, none⟩ = some (.slice A279_4 ((rd_T38 l0 x9_1).f3).length c279_4) ∧ w16.cell? ⟨(ad279.add ((x9_1).toNat * 7)).block, (ad279.add ((x9_1).toNat * 7)).off + 5, none⟩ = some (.bool ((rd_T38 l0 x9_1).f4)) ∧ w16.cell? ⟨(ad279.add ((x9_1).toNat * 7)).block, (ad279.add ((x9_1).toNat * 7)).off + 6, none⟩ = some (.slice A279_6 ((rd_T38 l0 x9_1).f5).length c279_6) := hS_
                      refine norm_ (a' := ?_) ?_ ?_
                      rotate_left
                      · simp only [putAll, Act.put, List.setIfInBounds_toArray, List.set_cons_zero, List.set_cons_succ]
                        rfl
                      refine two_ (i := 5) (j := 10) (Ni := some 26) (Nj := some 11) bN19_ bN9_ rfl rfl rfl rfl (two_of HT_.out (by kernel_rfl)) (by decide) (by decide) (fun K hK => ?_) (fun K hK => ?_)
                      · skip
                        refine goes_ Try.func9 (by kernel_rfl) rfl #[.agg #[.slice Ao13 x279000_1.length co13], .agg #[.int .i64 ((rd_T38 l0 x9_1).f0), .int .u64 ((rd_T38 l0 x9_1).f1.f0), .int .u64 ((rd_T38 l0 x9_1).f1.f1), .string ((rd_T38 l0 x9_1).f2), .slice A279_4 ((rd_T38 l0 x9_1).f3).length c279_4, .bool ((rd_T38 l0 x9_1).f4), .slice A279_6 ((rd_T38 l0 x9_1).f5).length c279_6]] (by rfl) rfl rfl (by (try simp only [List.map_toArray, List.map_cons, List.map_nil]); first | done | rfl | (simp only [List.length_drop, List.length_take]; rfl)) ?_
                        with_reducible refine (coord_Do.calls k1 (fun k_ => (k_ ≠ gb276 ∧ (k_ ≠ gb278 ∧ k_ ≠ gb288))) _ _ x279000_1 ((rd_T38 l0 x9_1).f0) ((rd_T38 l0 x9_1).f1.f0) ((rd_T38 l0 x9_1).f1.f1) ((rd_T38 l0 x9_1).f2) _ _ ((rd_T38 l0 x9_1).f3) ((rd_T38 l0 x9_1).f4) _ _ ((rd_T38 l0 x9_1).f5) t280 t283 t284 t285 t286 t287 _ ?side1 ?side2 ?side3 ?side4 ?side5 A11.out).mono ?_
                        (case side1 => exact HO_279000.out)
                        (case side2 => repeat (first | exact (Kd.C_below HR279_4.out HB.out) | (with_reducible refine Kd.C_alloc ?_ _) | (with_reducible refine Kd.C_drewN ?_ _) | (with_reducible refine Kd.C_drew ?_)))
                        (case side3 => exact HC279_4.out)
                        (case side4 => repeat (first | exact (Kd.C_below HR279_6.out HB.out) | (with_reducible refine Kd.C_alloc ?_ _) | (with_reducible refine Kd.C_drewN ?_ _) | (with_reducible refine Kd.C_drew ?_)))
                        (case side5 => exact HC279_6.out)
                        rintro e w17 ⟨v281, rfl, ho0, hb⟩
                        refine ⟨_, rfl, ?_⟩
                        have n0_ := am_ (Kd.V_below (vx_ HO_279000) hb)
                        have n1_ := am_ (Kd.V_lower (Kd.V_mono (ok' := fun k_ => k_ ≠ gb276 ∧ k_ ≠ gb278 ∧ k_ ≠ gb288) ho0 (fun k_ hk_ => ⟨Or.elim hk_ (fun hs_ => hs_.1) (fun hn_ => (Kd.freshB (g := gb276) (o := .cells #[.int .u64 a1_0, .int .u64 a1_1] 34 (0, 0)) (bx_ BK276) k_ hn_)), Or.elim hk_ (fun hs_ => hs_.2.1) (fun hn_ => (Kd.freshB (g := gb278) (o := .cells #[.slice Ao13 x279000_1.length co13] 26 (0, 0)) (bx_ BK278) k_ hn_)), Or.elim hk_ (fun hs_ => hs_.2.2) (fun hn_ => (Kd.freshB (g := gb288) (o := .cells #[.slice none 0 0] 26 (0, 0)) (bx_ BK288) k_ hn_))⟩)) (below_size (hx_ HB)))
                        have n2_ := am_ (blk_below (g := gb276) (o := .cells #[.int .u64 a1_0, .int .u64 a1_1] 34 (0, 0)) (bx_ BK276) hb)
                        have n3_ := am_ (blk_below (g := gb278) (o := .cells #[.slice Ao13 x279000_1.length co13] 26 (0, 0)) (bx_ BK278) hb)
                        have n4_ := am_ (blk_below (g := gb288) (o := .cells #[.slice none 0 0] 26 (0, 0)) (bx_ BK288) hb)
                        have n5_ := am_ (below_step (hx_ HB) hb)
                        clear HO_279000
                        clear BK276
                        clear BK278
                        clear BK288
                        clear HB
                        have HO_279000 := n0_
                        have HO282 := n1_
                        have BK276 := n2_
                        have BK278 := n3_
                        have BK288 := n4_
                        have HB := n5_
                        clear n0_ n1_ n2_ n3_ n4_ n5_
                        (try clear hb)
                        (try clear hb2)
                        (try clear hk)
                        (try clear hi)
                        (try clear ho0)
                        refine hK.out _ _ ⟨(blk_cell BK278.out 0).trans rfl, ((HB.out.cell (World.block_lt_of_cell? w _ hw279_0)).trans hw279_0), ((HB.out.cell (World.block_lt_of_cell? w _ hw279_1)).trans hw279_1), ((HB.out.cell (World.block_lt_of_cell? w _ hw279_2)).trans hw279_2), ((HB.out.cell (World.block_lt_of_cell? w _ hw279_3)).trans hw279_3), ((HB.out.cell (World.block_lt_of_cell? w _ hw279_4)).trans hw279_4), ((HB.out.cell (World.block_lt_of_cell? w _ hw279_5)).trans hw279_5), ((HB.out.cell (World.block_lt_of_cell? w _ hw279_6)).trans hw279_6)⟩ (fun hHeld => ?_)
                        clear hK K
                        refine norm_ (a' := ?_) ?_ ?_
                        rotate_left
                        · show Act.put _ (some 26) _ = _
                          simp only [Act.put, List.setIfInBounds_toArray, List.set_cons_zero, List.set_cons_succ, i64_w, i32_w]
                          rfl
                        refine pure_ (i := 6) (N := some 20) (v := ?_) (a' := ?_) bN20_ rfl rfl (any_of HT_.out (by kernel_rfl)) (fun _ _ _ h => h) (Or.inl ⟨by rfl, ?_⟩) ?_ ?_
                        rotate_left
                        · intro w'
                          go_simp
                          with_reducible rfl
                        rotate_left
                        · simp only [Act.put, List.setIfInBounds_toArray, List.set_cons_zero, List.set_cons_succ, i64_w, i32_w]
                          rfl
                        refine pure_ (i := 7) (N := some 27) (v := ?_) (a' := ?_) bN21_ rfl rfl (any_of HT_.out (by kernel_rfl)) (fun _ _ _ h => h) (Or.inl ⟨by rfl, ?_⟩) ?_ ?_
                        rotate_left
                        · intro w'
                          go_simp
                          with_reducible rfl
                        rotate_left
                        · simp only [Act.put, List.setIfInBounds_toArray, List.set_cons_zero, List.set_cons_succ, i64_w, i32_w]
                          rfl
                        refine pure_ (i := 8) (N := some 28) (v := ?_) (a' := ?_) bN7_ rfl rfl (any_of HT_.out (by kernel_rfl)) (fun _ _ _ h => h) (Or.inl ⟨by rfl, ?_⟩) ?_ ?_
                        rotate_left
                        · intro w'
                          go_simp
                          with_reducible rfl
                        rotate_left
                        · simp only [Act.put, List.setIfInBounds_toArray, List.set_cons_zero, List.set_cons_succ, i64_w, i32_w]
                          rfl
                        exact norm_ (by first | (simp only [putAll, Act.put, List.setIfInBounds_toArray, List.set_cons_zero, List.set_cons_succ]; done) | (simp only [putAll, Act.put, List.setIfInBounds_toArray, List.set_cons_zero, List.set_cons_succ]; rfl)) (hJ5_9 (v281, gb288) _ ⟨hHeld, (vx_ HO282), (vx_ HO_279000), (bx_ BK276), (bx_ BK278), (bx_ BK288), GW288.out, GE288.out, NB276_288.out, NB288_276.out, NB278_288.out, NB288_278.out, (hx_ HB)⟩)
                      · skip
                        refine box_step ?hg (N := 11) ?hd (cs := #[.int .i64 0, .string (⟨#[]⟩ : ByteArray), .int .u64 0, .bool false, .bool false]) (t := 30) ?hr ?_; (case hd => rfl); (case hg => rfl); (case hr => first | (go_simp; done) | (go_simp; rfl))
                        intro gb289 hg w17 hbox hb
                        have n0_ := am_ (Kd.V_below (Kd.V_elderB (vx_ HO_279000) gb289 (Nat.le_of_eq hg.symm)) hb)
                        have n1_ := am_ (blk_below (g := gb276) (o := .cells #[.int .u64 a1_0, .int .u64 a1_1] 34 (0, 0)) (bx_ BK276) hb)
                        have n2_ := am_ (blk_below (g := gb278) (o := .cells #[.slice Ao13 x279000_1.length co13] 26 (0, 0)) (bx_ BK278) hb)
                        have n3_ := am_ (blk_below (g := gb288) (o := .cells #[.slice none 0 0] 26 (0, 0)) (bx_ BK288) hb)
                        have n4_ := am_ (below_step (hx_ HB) hb)
                        have n5_ := am_ (hbox)
                        have n6_ := am_ ((by rw [hg]; exact (below_size (hx_ HB)) : w.heap.size ≤ gb289))
                        have n7_ := am_ ((by rw [hg]; exact (below_size (hx_ HB)) : w.heap.size ≤ gb289))
                        have n8_ := am_ ((by rw [hg]; exact Nat.ne_of_lt (blk_lt (g := gb276) (o := .cells #[.int .u64 a1_0, .int .u64 a1_1] 34 (0, 0)) (bx_ BK276)) : gb276 ≠ gb289))
                        have n9_ := am_ ((by rw [hg]; exact Nat.ne_of_gt (blk_lt (g := gb276) (o := .cells #[.int .u64 a1_0, .int .u64 a1_1] 34 (0, 0)) (bx_ BK276)) : gb289 ≠ gb276))
                        have n10_ := am_ ((by rw [hg]; exact Nat.ne_of_lt (blk_lt (g := gb278) (o := .cells #[.slice Ao13 x279000_1.length co13] 26 (0, 0)) (bx_ BK278)) : gb278 ≠ gb289))
                        have n11_ := am_ ((by rw [hg]; exact Nat.ne_of_gt (blk_lt (g := gb278) (o := .cells #[.slice Ao13 x279000_1.length co13] 26 (0, 0)) (bx_ BK278)) : gb289 ≠ gb278))
                        have n12_ := am_ ((by rw [hg]; exact Nat.ne_of_lt (blk_lt (g := gb288) (o := .cells #[.slice none 0 0] 26 (0, 0)) (bx_ BK288)) : gb288 ≠ gb289))
                        have n13_ := am_ ((by rw [hg]; exact Nat.ne_of_gt (blk_lt (g := gb288) (o := .cells #[.slice none 0 0] 26 (0, 0)) (bx_ BK288)) : gb289 ≠ gb288))
                        clear HO_279000
                        clear BK276
                        clear BK278
                        clear BK288
                        clear HB
                        have HO_279000 := n0_
                        have BK276 := n1_
                        have BK278 := n2_
                        have BK288 := n3_
                        have HB := n4_
                        have BK289 := n5_
                        have GW289 := n6_
                        have GE289 := n7_
                        have NB276_289 := n8_
                        have NB289_276 := n9_
                        have NB278_289 := n10_
                        have NB289_278 := n11_
                        have NB288_289 := n12_
                        have NB289_288 := n13_
                        clear n0_ n1_ n2_ n3_ n4_ n5_ n6_ n7_ n8_ n9_ n10_ n11_ n12_ n13_
                        clear hb hbox hg
                        refine hK.out _ _ ⟨(blk_cell BK278.out 0).trans rfl, ((HB.out.cell (World.block_lt_of_cell? w _ hw279_0)).trans hw279_0), ((HB.out.cell (World.block_lt_of_cell? w _ hw279_1)).trans hw279_1), ((HB.out.cell (World.block_lt_of_cell? w _ hw279_2)).trans hw279_2), ((HB.out.cell (World.block_lt_of_cell? w _ hw279_3)).trans hw279_3), ((HB.out.cell (World.block_lt_of_cell? w _ hw279_4)).trans hw279_4), ((HB.out.cell (World.block_lt_of_cell? w _ hw279_5)).trans hw279_5), ((HB.out.cell (World.block_lt_of_cell? w _ hw279_6)).trans hw279_6)⟩ (fun hHeld => ?_)
                        clear hK K
                        refine norm_ (a' := ?_) ?_ ?_
                        rotate_left
                        · show Act.put _ (some 11) _ = _
                          simp only [Act.put, List.setIfInBounds_toArray, List.set_cons_zero, List.set_cons_succ, i64_w, i32_w]
                          rfl
                        exact norm_ (by first | (simp only [putAll, Act.put, List.setIfInBounds_toArray, List.set_cons_zero, List.set_cons_succ]; done) | (simp only [putAll, Act.put, List.setIfInBounds_toArray, List.set_cons_zero, List.set_cons_succ]; rfl)) (hJ9_10 (gb288, gb289) _ ⟨hHeld, (by (with_reducible repeat (first | apply Kd.V_alloc | apply Kd.V_drewN | apply Kd.V_drew)); exact Kd.V_mono HO_279000.out (fun _ hk => ⟨hk.1.1, ⟨hk.1.2.1, ⟨hk.1.2.2, hk.2⟩⟩⟩)), (bx_ BK276), (bx_ BK278), (bx_ BK288), (bx_ BK289), GW288.out, GE288.out, NB276_288.out, NB288_276.out, NB278_288.out, NB288_278.out, NB289_288.out, NB288_289.out, GW289.out, GE289.out, NB276_289.out, NB289_276.out, NB278_289.out, NB289_278.out, (hx_ HB)⟩)
                  · skip
                    rintro v281 w16 ⟨hS_, h0_, h1_, h2_, h3_, h4_⟩
                    have n0_ : Aside0 (Kd.V k42 42 w16 w.heap.size (fun k_ => k_ ≠ gb276 ∧ k_ ≠ gb278) v281 t280) := ⟨h0_⟩
                    have n1_ : Aside0 (Kd.V k42 42 w16 w.heap.size (fun k_ => k_ ≠ gb276 ∧ k_ ≠ gb278) (.slice Ao13 x279000_1.length co13) x279000_1) := ⟨h1_⟩
                    have n2_ : Aside0 (w16.heap[gb276]? = some (.cells #[.int .u64 a1_0, .int .u64 a1_1] 34 (0, 0))) := ⟨h2_⟩
                    have n3_ : Aside0 (w16.heap[gb278]? = some (.cells #[.slice Ao13 x279000_1.length co13] 26 (0, 0))) := ⟨h3_⟩
                    have n4_ : Aside0 (Below w.heap.size w w16) := ⟨h4_⟩
                    clear HO_279000
                    clear BK276
                    clear BK278
                    clear HB
                    clear h0_ h1_ h2_ h3_ h4_
                    have HO282 := n0_
                    have HO_279000 := n1_
                    have BK276 := n2_
                    have BK278 := n3_
                    have HB := n4_
                    clear n0_ n1_ n2_ n3_ n4_
                    have hHeld : w16.cell? ⟨gb278, 0, none⟩ = some (.slice Ao13 x279000_1.length co13) ∧ w16.cell? (ad279.add ((x9_1).toNat * 7)) = some (.int .i64 ((rd_T38 l0 x9_1).f0)) ∧ w16.cell? ⟨(ad279.add ((x9_1).toNat * 7)).block, (ad279.add ((x9_1).toNat * 7)).off + 1, none⟩ = some (.int .u64 ((rd_T38 l0 x9_1).f1.f0)) ∧ w16.cell? ⟨(ad279.add ((x9_1).toNat * 7)).block, (ad279.add ((x9_1).toNat * 7)).off + 2, none⟩ = some (.int .u64 ((rd_T38 l0 x9_1).f1.f1)) ∧ w16.cell? ⟨(ad279.add ((x9_1).toNat * 7)).block, (ad279.add ((x9_1).toNat * 7)).off + 3, none⟩ = some (.string ((rd_T38 l0 x9_1).f2)) ∧ w16.cell? ⟨(ad279.add ((x9_1).toNat * 7)).block, (ad279.add ((x9_1).toNat * 7)).off + 4, none⟩ = some (.slice A279_4 ((rd_T38 l0 x9_1).f3).length c279_4) ∧ w16.cell? ⟨(ad279.add ((x9_1).toNat * 7)).block, (ad279.add ((x9_1).toNat * 7)).off + 5, none⟩ = some (.bool ((rd_T38 l0 x9_1).f4)) ∧ w16.cell? ⟨(ad279.add ((x9_1).toNat * 7)).block, (ad279.add ((x9_1).toNat * 7)).off + 6, none⟩ = some (.slice A279_6 ((rd_T38 l0 x9_1).f5).length c279_6) := hS_
                    refine norm_ (a' := ?_) ?_ ?_
                    rotate_left
                    · simp only [putAll, Act.put, List.setIfInBounds_toArray, List.set_cons_zero, List.set_cons_succ]
                      rfl
                    refine two_ (i := 9) (j := 10) (Ni := some 10) (Nj := some 11) bN7_ bN8_ rfl rfl rfl rfl (two_of HT_.out (by kernel_rfl)) (by decide) (by decide) (fun K hK => ?_) (fun K hK => ?_)
                    · skip
                      refine box_step ?hg (N := 10) ?hd (cs := #[.slice none 0 0]) (t := 26) ?hr ?_; (case hd => rfl); (case hg => rfl); (case hr => first | (go_simp; done) | (go_simp; rfl))
                      intro gb288 hg w17 hbox hb
                      have n0_ := am_ (Kd.V_below (Kd.V_elderB (vx_ HO_279000) gb288 (Nat.le_of_eq hg.symm)) hb)
                      have n1_ := am_ (Kd.V_below (Kd.V_elderB (vx_ HO282) gb288 (Nat.le_of_eq hg.symm)) hb)
                      have n2_ := am_ (blk_below (g := gb276) (o := .cells #[.int .u64 a1_0, .int .u64 a1_1] 34 (0, 0)) (bx_ BK276) hb)
                      have n3_ := am_ (blk_below (g := gb278) (o := .cells #[.slice Ao13 x279000_1.length co13] 26 (0, 0)) (bx_ BK278) hb)
                      have n4_ := am_ (below_step (hx_ HB) hb)
                      have n5_ := am_ (hbox)
                      have n6_ := am_ ((by rw [hg]; exact (below_size (hx_ HB)) : w.heap.size ≤ gb288))
                      have n7_ := am_ ((by rw [hg]; exact (below_size (hx_ HB)) : w.heap.size ≤ gb288))
                      have n8_ := am_ ((by rw [hg]; exact Nat.ne_of_lt (blk_lt (g := gb276) (o := .cells #[.int .u64 a1_0, .int .u64 a1_1] 34 (0, 0)) (bx_ BK276)) : gb276 ≠ gb288))
                      have n9_ := am_ ((by rw [hg]; exact Nat.ne_of_gt (blk_lt (g := gb276) (o := .cells #[.int .u64 a1_0, .int .u64 a1_1] 34 (0, 0)) (bx_ BK276)) : gb288 ≠ gb276))
                      have n10_ := am_ ((by rw [hg]; exact Nat.ne_of_lt (blk_lt (g := gb278) (o := .cells #[.slice Ao13 x279000_1.length co13] 26 (0, 0)) (bx_ BK278)) : gb278 ≠ gb288))
                      have n11_ := am_ ((by rw [hg]; exact Nat.ne_of_gt (blk_lt (g := gb278) (o := .cells #[.slice Ao13 x279000_1.length co13] 26 (0, 0)) (bx_ BK278)) : gb288 ≠ gb278))
                      clear HO_279000
                      clear HO282
                      clear BK276
                      clear BK278
                      clear HB
                      have HO_279000 := n0_
                      have HO282 := n1_
                      have BK276 := n2_
                      have BK278 := n3_
                      have HB := n4_
                      have BK288 := n5_
                      have GW288 := n6_
                      have GE288 := n7_
                      have NB276_288 := n8_
                      have NB288_276 := n9_
                      have NB278_288 := n10_
                      have NB288_278 := n11_
                      clear n0_ n1_ n2_ n3_ n4_ n5_ n6_ n7_ n8_ n9_ n10_ n11_
                      clear hb hbox hg
                      refine hK.out _ _ ⟨(blk_cell BK278.out 0).trans rfl, ((HB.out.cell (World.block_lt_of_cell? w _ hw279_0)).trans hw279_0), ((HB.out.cell (World.block_lt_of_cell? w _ hw279_1)).trans hw279_1), ((HB.out.cell (World.block_lt_of_cell? w _ hw279_2)).trans hw279_2), ((HB.out.cell (World.block_lt_of_cell? w _ hw279_3)).trans hw279_3), ((HB.out.cell (World.block_lt_of_cell? w _ hw279_4)).trans hw279_4), ((HB.out.cell (World.block_lt_of_cell? w _ hw279_5)).trans hw279_5), ((HB.out.cell (World.block_lt_of_cell? w _ hw279_6)).trans hw279_6)⟩ (fun hHeld => ?_)
                      clear hK K
                      refine norm_ (a' := ?_) ?_ ?_
                      rotate_left
                      · show Act.put _ (some 10) _ = _
                        simp only [Act.put, List.setIfInBounds_toArray, List.set_cons_zero, List.set_cons_succ, i64_w, i32_w]
                        rfl
                      exact norm_ (by first | (simp only [putAll, Act.put, List.setIfInBounds_toArray, List.set_cons_zero, List.set_cons_succ]; done) | (simp only [putAll, Act.put, List.setIfInBounds_toArray, List.set_cons_zero, List.set_cons_succ]; rfl)) (hJ5_9 (v281, gb288) _ ⟨hHeld, (by (with_reducible repeat (first | apply Kd.V_alloc | apply Kd.V_drewN | apply Kd.V_drew)); exact Kd.V_mono HO282.out (fun _ hk => ⟨hk.1.1, ⟨hk.1.2, hk.2⟩⟩)), (by (with_reducible repeat (first | apply Kd.V_alloc | apply Kd.V_drewN | apply Kd.V_drew)); exact Kd.V_mono HO_279000.out (fun _ hk => ⟨hk.1.1, ⟨hk.1.2, hk.2⟩⟩)), (bx_ BK276), (bx_ BK278), (bx_ BK288), GW288.out, GE288.out, NB276_288.out, NB288_276.out, NB278_288.out, NB288_278.out, (hx_ HB)⟩)
                    · skip
                      refine box_step ?hg (N := 11) ?hd (cs := #[.int .i64 0, .string (⟨#[]⟩ : ByteArray), .int .u64 0, .bool false, .bool false]) (t := 30) ?hr ?_; (case hd => rfl); (case hg => rfl); (case hr => first | (go_simp; done) | (go_simp; rfl))
                      intro gb289 hg w17 hbox hb
                      have n0_ := am_ (Kd.V_below (Kd.V_elderB (vx_ HO_279000) gb289 (Nat.le_of_eq hg.symm)) hb)
                      have n1_ := am_ (Kd.V_below (Kd.V_elderB (vx_ HO282) gb289 (Nat.le_of_eq hg.symm)) hb)
                      have n2_ := am_ (blk_below (g := gb276) (o := .cells #[.int .u64 a1_0, .int .u64 a1_1] 34 (0, 0)) (bx_ BK276) hb)
                      have n3_ := am_ (blk_below (g := gb278) (o := .cells #[.slice Ao13 x279000_1.length co13] 26 (0, 0)) (bx_ BK278) hb)
                      have n4_ := am_ (below_step (hx_ HB) hb)
                      have n5_ := am_ (hbox)
                      have n6_ := am_ ((by rw [hg]; exact (below_size (hx_ HB)) : w.heap.size ≤ gb289))
                      have n7_ := am_ ((by rw [hg]; exact (below_size (hx_ HB)) : w.heap.size ≤ gb289))
                      have n8_ := am_ ((by rw [hg]; exact Nat.ne_of_lt (blk_lt (g := gb276) (o := .cells #[.int .u64 a1_0, .int .u64 a1_1] 34 (0, 0)) (bx_ BK276)) : gb276 ≠ gb289))
                      have n9_ := am_ ((by rw [hg]; exact Nat.ne_of_gt (blk_lt (g := gb276) (o := .cells #[.int .u64 a1_0, .int .u64 a1_1] 34 (0, 0)) (bx_ BK276)) : gb289 ≠ gb276))
                      have n10_ := am_ ((by rw [hg]; exact Nat.ne_of_lt (blk_lt (g := gb278) (o := .cells #[.slice Ao13 x279000_1.length co13] 26 (0, 0)) (bx_ BK278)) : gb278 ≠ gb289))
                      have n11_ := am_ ((by rw [hg]; exact Nat.ne_of_gt (blk_lt (g := gb278) (o := .cells #[.slice Ao13 x279000_1.length co13] 26 (0, 0)) (bx_ BK278)) : gb289 ≠ gb278))
                      clear HO_279000
                      clear HO282
                      clear BK276
                      clear BK278
                      clear HB
                      have HO_279000 := n0_
                      have HO282 := n1_
                      have BK276 := n2_
                      have BK278 := n3_
                      have HB := n4_
                      have BK289 := n5_
                      have GW289 := n6_
                      have GE289 := n7_
                      have NB276_289 := n8_
                      have NB289_276 := n9_
                      have NB278_289 := n10_
                      have NB289_278 := n11_
                      clear n0_ n1_ n2_ n3_ n4_ n5_ n6_ n7_ n8_ n9_ n10_ n11_
                      clear hb hbox hg
                      refine hK.out _ _ ⟨(blk_cell BK278.out 0).trans rfl, ((HB.out.cell (World.block_lt_of_cell? w _ hw279_0)).trans hw279_0), ((HB.out.cell (World.block_lt_of_cell? w _ hw279_1)).trans hw279_1), ((HB.out.cell (World.block_lt_of_cell? w _ hw279_2)).trans hw279_2), ((HB.out.cell (World.block_lt_of_cell? w _ hw279_3)).trans hw279_3), ((HB.out.cell (World.block_lt_of_cell? w _ hw279_4)).trans hw279_4), ((HB.out.cell (World.block_lt_of_cell? w _ hw279_5)).trans hw279_5), ((HB.out.cell (World.block_lt_of_cell? w _ hw279_6)).trans hw279_6)⟩ (fun hHeld => ?_)
                      clear hK K
                      refine norm_ (a' := ?_) ?_ ?_
                      rotate_left
                      · show Act.put _ (some 11) _ = _
                        simp only [Act.put, List.setIfInBounds_toArray, List.set_cons_zero, List.set_cons_succ, i64_w, i32_w]
                        rfl
                      exact norm_ (by first | (simp only [putAll, Act.put, List.setIfInBounds_toArray, List.set_cons_zero, List.set_cons_succ]; done) | (simp only [putAll, Act.put, List.setIfInBounds_toArray, List.set_cons_zero, List.set_cons_succ]; rfl)) (hJ5_10 (v281, gb289) _ ⟨hHeld, (by (with_reducible repeat (first | apply Kd.V_alloc | apply Kd.V_drewN | apply Kd.V_drew)); exact Kd.V_mono HO282.out (fun _ hk => ⟨hk.1.1, ⟨hk.1.2, hk.2⟩⟩)), (by (with_reducible repeat (first | apply Kd.V_alloc | apply Kd.V_drewN | apply Kd.V_drew)); exact Kd.V_mono HO_279000.out (fun _ hk => ⟨hk.1.1, ⟨hk.1.2, hk.2⟩⟩)), (bx_ BK276), (bx_ BK278), (bx_ BK289), GW289.out, GE289.out, NB276_289.out, NB289_276.out, NB278_289.out, NB289_278.out, (hx_ HB)⟩)
                · skip
                  rintro ⟨gb288, gb289⟩ w17 ⟨hS_, h0_, h1_, h2_, h3_, h4_, h5_, h6_, h7_, h8_, h9_, h10_, h11_, h12_, h13_, h14_, h15_, h16_, h17_, h18_, h19_⟩
                  have n0_ : Aside0 (Kd.V k42 42 w17 w.heap.size (fun k_ => k_ ≠ gb276 ∧ k_ ≠ gb278 ∧ k_ ≠ gb288 ∧ k_ ≠ gb289) (.slice Ao13 x279000_1.length co13) x279000_1) := ⟨h0_⟩
                  have n1_ : Aside0 (w17.heap[gb276]? = some (.cells #[.int .u64 a1_0, .int .u64 a1_1] 34 (0, 0))) := ⟨h1_⟩
                  have n2_ : Aside0 (w17.heap[gb278]? = some (.cells #[.slice Ao13 x279000_1.length co13] 26 (0, 0))) := ⟨h2_⟩
                  have n3_ : Aside0 (w17.heap[gb288]? = some (.cells #[.slice none 0 0] 26 (0, 0))) := ⟨h3_⟩
                  have n4_ : Aside0 (w17.heap[gb289]? = some (.cells #[.int .i64 0, .string (⟨#[]⟩ : ByteArray), .int .u64 0, .bool false, .bool false] 30 (0, 0))) := ⟨h4_⟩
                  have n5_ : Aside0 (w.heap.size ≤ gb288) := ⟨h5_⟩
                  have n6_ : Aside0 (w.heap.size ≤ gb288) := ⟨h6_⟩
                  have n7_ : Aside0 (gb276 ≠ gb288) := ⟨h7_⟩
                  have n8_ : Aside0 (gb288 ≠ gb276) := ⟨h8_⟩
                  have n9_ : Aside0 (gb278 ≠ gb288) := ⟨h9_⟩
                  have n10_ : Aside0 (gb288 ≠ gb278) := ⟨h10_⟩
                  have n11_ : Aside0 (gb289 ≠ gb288) := ⟨h11_⟩
                  have n12_ : Aside0 (gb288 ≠ gb289) := ⟨h12_⟩
                  have n13_ : Aside0 (w.heap.size ≤ gb289) := ⟨h13_⟩
                  have n14_ : Aside0 (w.heap.size ≤ gb289) := ⟨h14_⟩
                  have n15_ : Aside0 (gb276 ≠ gb289) := ⟨h15_⟩
                  have n16_ : Aside0 (gb289 ≠ gb276) := ⟨h16_⟩
                  have n17_ : Aside0 (gb278 ≠ gb289) := ⟨h17_⟩
                  have n18_ : Aside0 (gb289 ≠ gb278) := ⟨h18_⟩
                  have n19_ : Aside0 (Below w.heap.size w w17) := ⟨h19_⟩
                  clear HO_279000
                  clear BK276
                  clear BK278
                  clear HB
                  clear h0_ h1_ h2_ h3_ h4_ h5_ h6_ h7_ h8_ h9_ h10_ h11_ h12_ h13_ h14_ h15_ h16_ h17_ h18_ h19_
                  have HO_279000 := n0_
                  have BK276 := n1_
                  have BK278 := n2_
                  have BK288 := n3_
                  have BK289 := n4_
                  have GW288 := n5_
                  have GE288 := n6_
                  have NB276_288 := n7_
                  have NB288_276 := n8_
                  have NB278_288 := n9_
                  have NB288_278 := n10_
                  have NB289_288 := n11_
                  have NB288_289 := n12_
                  have GW289 := n13_
                  have GE289 := n14_
                  have NB276_289 := n15_
                  have NB289_276 := n16_
                  have NB278_289 := n17_
                  have NB289_278 := n18_
                  have HB := n19_
                  clear n0_ n1_ n2_ n3_ n4_ n5_ n6_ n7_ n8_ n9_ n10_ n11_ n12_ n13_ n14_ n15_ n16_ n17_ n18_ n19_
                  have hHeld : w17.cell? ⟨gb278, 0, none⟩ = some (.slice Ao13 x279000_1.length co13) ∧ w17.cell? (ad279.add ((x9_1).toNat * 7)) = some (.int .i64 ((rd_T38 l0 x9_1).f0)) ∧ w17.cell? ⟨(ad279.add ((x9_1).toNat * 7)).block, (ad279.add ((x9_1).toNat * 7)).off + 1, none⟩ = some (.int .u64 ((rd_T38 l0 x9_1).f1.f0)) ∧ w17.cell? ⟨(ad279.add ((x9_1).toNat * 7)).block, (ad279.add ((x9_1).toNat * 7)).off + 2, none⟩ = some (.int .u64 ((rd_T38 l0 x9_1).f1.f1)) ∧ w17.cell? ⟨(ad279.add ((x9_1).toNat * 7)).block, (ad279.add ((x9_1).toNat * 7)).off + 3, none⟩ = some (.string ((rd_T38 l0 x9_1).f2)) ∧ w17.cell? ⟨(ad279.add ((x9_1).toNat * 7)).block, (ad279.add ((x9_1).toNat * 7)).off + 4, none⟩ = some (.slice A279_4 ((rd_T38 l0 x9_1).f3).length c279_4) ∧ w17.cell? ⟨(ad279.add ((x9_1).toNat * 7)).block, (ad279.add ((x9_1).toNat * 7)).off + 5, none⟩ = some (.bool ((rd_T38 l0 x9_1).f4)) ∧ w17.cell? ⟨(ad279.add ((x9_1).toNat * 7)).block, (ad279.add ((x9_1).toNat * 7)).off + 6, none⟩ = some (.slice A279_6 ((rd_T38 l0 x9_1).f5).length c279_6) := hS_
                  refine norm_ (a' := ?_) ?_ ?_
                  rotate_left
                  · simp only [putAll, Act.put, List.setIfInBounds_toArray, List.set_cons_zero, List.set_cons_succ]
                    rfl
                  refine one_ (i := 5) (N := some 26) bN22_ rfl rfl (one_of HT_.out (by kernel_rfl)) (by decide) (fun K hK => ?_)
                  refine goes_ Try.func9 (by kernel_rfl) rfl #[.agg #[.slice Ao13 x279000_1.length co13], .agg #[.int .i64 ((rd_T38 l0 x9_1).f0), .int .u64 ((rd_T38 l0 x9_1).f1.f0), .int .u64 ((rd_T38 l0 x9_1).f1.f1), .string ((rd_T38 l0 x9_1).f2), .slice A279_4 ((rd_T38 l0 x9_1).f3).length c279_4, .bool ((rd_T38 l0 x9_1).f4), .slice A279_6 ((rd_T38 l0 x9_1).f5).length c279_6]] (by rfl) rfl rfl (by (try simp only [List.map_toArray, List.map_cons, List.map_nil]); first | done | rfl | (simp only [List.length_drop, List.length_take]; rfl)) ?_
                  with_reducible refine (coord_Do.calls k1 (fun k_ => (k_ ≠ gb276 ∧ (k_ ≠ gb278 ∧ (k_ ≠ gb288 ∧ k_ ≠ gb289)))) _ _ x279000_1 ((rd_T38 l0 x9_1).f0) ((rd_T38 l0 x9_1).f1.f0) ((rd_T38 l0 x9_1).f1.f1) ((rd_T38 l0 x9_1).f2) _ _ ((rd_T38 l0 x9_1).f3) ((rd_T38 l0 x9_1).f4) _ _ ((rd_T38 l0 x9_1).f5) t280 t283 t284 t285 t286 t287 _ ?side1 ?side2 ?side3 ?side4 ?side5 A11.out).mono ?_
                  (case side1 => exact HO_279000.out)
                  (case side2 => repeat (first | exact (Kd.C_below HR279_4.out HB.out) | (with_reducible refine Kd.C_alloc ?_ _) | (with_reducible refine Kd.C_drewN ?_ _) | (with_reducible refine Kd.C_drew ?_)))
                  (case side3 => exact HC279_4.out)
                  (case side4 => repeat (first | exact (Kd.C_below HR279_6.out HB.out) | (with_reducible refine Kd.C_alloc ?_ _) | (with_reducible refine Kd.C_drewN ?_ _) | (with_reducible refine Kd.C_drew ?_)))
                  (case side5 => exact HC279_6.out)
                  rintro e w18 ⟨v281, rfl, ho0, hb⟩
                  refine ⟨_, rfl, ?_⟩
                  have n0_ := am_ (Kd.V_below (vx_ HO_279000) hb)
                  have n1_ := am_ (Kd.V_lower (Kd.V_mono (ok' := fun k_ => k_ ≠ gb276 ∧ k_ ≠ gb278 ∧ k_ ≠ gb288 ∧ k_ ≠ gb289) ho0 (fun k_ hk_ => ⟨Or.elim hk_ (fun hs_ => hs_.1) (fun hn_ => (Kd.freshB (g := gb276) (o := .cells #[.int .u64 a1_0, .int .u64 a1_1] 34 (0, 0)) (bx_ BK276) k_ hn_)), Or.elim hk_ (fun hs_ => hs_.2.1) (fun hn_ => (Kd.freshB (g := gb278) (o := .cells #[.slice Ao13 x279000_1.length co13] 26 (0, 0)) (bx_ BK278) k_ hn_)), Or.elim hk_ (fun hs_ => hs_.2.2.1) (fun hn_ => (Kd.freshB (g := gb288) (o := .cells #[.slice none 0 0] 26 (0, 0)) (bx_ BK288) k_ hn_)), Or.elim hk_ (fun hs_ => hs_.2.2.2) (fun hn_ => (Kd.freshB (g := gb289) (o := .cells #[.int .i64 0, .string (⟨#[]⟩ : ByteArray), .int .u64 0, .bool false, .bool false] 30 (0, 0)) (bx_ BK289) k_ hn_))⟩)) (below_size (hx_ HB)))
                  have n2_ := am_ (blk_below (g := gb276) (o := .cells #[.int .u64 a1_0, .int .u64 a1_1] 34 (0, 0)) (bx_ BK276) hb)
                  have n3_ := am_ (blk_below (g := gb278) (o := .cells #[.slice Ao13 x279000_1.length co13] 26 (0, 0)) (bx_ BK278) hb)
                  have n4_ := am_ (blk_below (g := gb288) (o := .cells #[.slice none 0 0] 26 (0, 0)) (bx_ BK288) hb)
                  have n5_ := am_ (blk_below (g := gb289) (o := .cells #[.int .i64 0, .string (⟨#[]⟩ : ByteArray), .int .u64 0, .bool false, .bool false] 30 (0, 0)) (bx_ BK289) hb)
                  have n6_ := am_ (below_step (hx_ HB) hb)
                  clear HO_279000
                  clear BK276
                  clear BK278
                  clear BK288
                  clear BK289
                  clear HB
                  have HO_279000 := n0_
                  have HO282 := n1_
                  have BK276 := n2_
                  have BK278 := n3_
                  have BK288 := n4_
                  have BK289 := n5_
                  have HB := n6_
                  clear n0_ n1_ n2_ n3_ n4_ n5_ n6_
                  (try clear hb)
                  (try clear hb2)
                  (try clear hk)
                  (try clear hi)
                  (try clear ho0)
                  refine hK.out _ _ ⟨(blk_cell BK278.out 0).trans rfl, ((HB.out.cell (World.block_lt_of_cell? w _ hw279_0)).trans hw279_0), ((HB.out.cell (World.block_lt_of_cell? w _ hw279_1)).trans hw279_1), ((HB.out.cell (World.block_lt_of_cell? w _ hw279_2)).trans hw279_2), ((HB.out.cell (World.block_lt_of_cell? w _ hw279_3)).trans hw279_3), ((HB.out.cell (World.block_lt_of_cell? w _ hw279_4)).trans hw279_4), ((HB.out.cell (World.block_lt_of_cell? w _ hw279_5)).trans hw279_5), ((HB.out.cell (World.block_lt_of_cell? w _ hw279_6)).trans hw279_6)⟩ (fun hHeld => ?_)
                  clear hK K
                  refine norm_ (a' := ?_) ?_ ?_
                  rotate_left
                  · show Act.put _ (some 26) _ = _
                    simp only [Act.put, List.setIfInBounds_toArray, List.set_cons_zero, List.set_cons_succ, i64_w, i32_w]
                    rfl
                  refine pure_ (i := 6) (N := some 20) (v := ?_) (a' := ?_) bN23_ rfl rfl (any_of HT_.out (by kernel_rfl)) (fun _ _ _ h => h) (Or.inl ⟨by rfl, ?_⟩) ?_ ?_
                  rotate_left
                  · intro w'
                    go_simp
                    with_reducible rfl
                  rotate_left
                  · simp only [Act.put, List.setIfInBounds_toArray, List.set_cons_zero, List.set_cons_succ, i64_w, i32_w]
                    rfl
                  refine pure_ (i := 7) (N := some 27) (v := ?_) (a' := ?_) bN24_ rfl rfl (any_of HT_.out (by kernel_rfl)) (fun _ _ _ h => h) (Or.inl ⟨by rfl, ?_⟩) ?_ ?_
                  rotate_left
                  · intro w'
                    go_simp
                    with_reducible rfl
                  rotate_left
                  · simp only [Act.put, List.setIfInBounds_toArray, List.set_cons_zero, List.set_cons_succ, i64_w, i32_w]
                    rfl
                  refine pure_ (i := 8) (N := some 28) (v := ?_) (a' := ?_) bN6_ rfl rfl (any_of HT_.out (by kernel_rfl)) (fun _ _ _ h => h) (Or.inl ⟨by rfl, ?_⟩) ?_ ?_
                  rotate_left
                  · intro w'
                    go_simp
                    with_reducible rfl
                  rotate_left
                  · simp only [Act.put, List.setIfInBounds_toArray, List.set_cons_zero, List.set_cons_succ, i64_w, i32_w]
                    rfl
                  exact norm_ (by first | (simp only [putAll, Act.put, List.setIfInBounds_toArray, List.set_cons_zero, List.set_cons_succ]; done) | (simp only [putAll, Act.put, List.setIfInBounds_toArray, List.set_cons_zero, List.set_cons_succ]; rfl)) (hJ5_9_10 (v281, gb288, gb289) _ ⟨hHeld, (vx_ HO282), (vx_ HO_279000), (bx_ BK276), (bx_ BK278), (bx_ BK288), (bx_ BK289), GW288.out, GE288.out, NB276_288.out, NB288_276.out, NB278_288.out, NB288_278.out, NB289_288.out, NB288_289.out, GW289.out, GE289.out, NB276_289.out, NB289_276.out, NB278_289.out, NB289_278.out, (hx_ HB)⟩)
              · skip
                rintro ⟨v281, gb289⟩ w17 ⟨hS_, h0_, h1_, h2_, h3_, h4_, h5_, h6_, h7_, h8_, h9_, h10_, h11_⟩
                have n0_ : Aside0 (Kd.V k42 42 w17 w.heap.size (fun k_ => k_ ≠ gb276 ∧ k_ ≠ gb278 ∧ k_ ≠ gb289) v281 t280) := ⟨h0_⟩
                have n1_ : Aside0 (Kd.V k42 42 w17 w.heap.size (fun k_ => k_ ≠ gb276 ∧ k_ ≠ gb278 ∧ k_ ≠ gb289) (.slice Ao13 x279000_1.length co13) x279000_1) := ⟨h1_⟩
                have n2_ : Aside0 (w17.heap[gb276]? = some (.cells #[.int .u64 a1_0, .int .u64 a1_1] 34 (0, 0))) := ⟨h2_⟩
                have n3_ : Aside0 (w17.heap[gb278]? = some (.cells #[.slice Ao13 x279000_1.length co13] 26 (0, 0))) := ⟨h3_⟩
                have n4_ : Aside0 (w17.heap[gb289]? = some (.cells #[.int .i64 0, .string (⟨#[]⟩ : ByteArray), .int .u64 0, .bool false, .bool false] 30 (0, 0))) := ⟨h4_⟩
                have n5_ : Aside0 (w.heap.size ≤ gb289) := ⟨h5_⟩
                have n6_ : Aside0 (w.heap.size ≤ gb289) := ⟨h6_⟩
                have n7_ : Aside0 (gb276 ≠ gb289) := ⟨h7_⟩
                have n8_ : Aside0 (gb289 ≠ gb276) := ⟨h8_⟩
                have n9_ : Aside0 (gb278 ≠ gb289) := ⟨h9_⟩
                have n10_ : Aside0 (gb289 ≠ gb278) := ⟨h10_⟩
                have n11_ : Aside0 (Below w.heap.size w w17) := ⟨h11_⟩
                clear HO_279000
                clear BK276
                clear BK278
                clear HB
                clear h0_ h1_ h2_ h3_ h4_ h5_ h6_ h7_ h8_ h9_ h10_ h11_
                have HO282 := n0_
                have HO_279000 := n1_
                have BK276 := n2_
                have BK278 := n3_
                have BK289 := n4_
                have GW289 := n5_
                have GE289 := n6_
                have NB276_289 := n7_
                have NB289_276 := n8_
                have NB278_289 := n9_
                have NB289_278 := n10_
                have HB := n11_
                clear n0_ n1_ n2_ n3_ n4_ n5_ n6_ n7_ n8_ n9_ n10_ n11_
                have hHeld : w17.cell? ⟨gb278, 0, none⟩ = some (.slice Ao13 x279000_1.length co13) ∧ w17.cell? (ad279.add ((x9_1).toNat * 7)) = some (.int .i64 ((rd_T38 l0 x9_1).f0)) ∧ w17.cell? ⟨(ad279.add ((x9_1).toNat * 7)).block, (ad279.add ((x9_1).toNat * 7)).off + 1, none⟩ = some (.int .u64 ((rd_T38 l0 x9_1).f1.f0)) ∧ w17.cell? ⟨(ad279.add ((x9_1).toNat * 7)).block, (ad279.add ((x9_1).toNat * 7)).off + 2, none⟩ = some (.int .u64 ((rd_T38 l0 x9_1).f1.f1)) ∧ w17.cell? ⟨(ad279.add ((x9_1).toNat * 7)).block, (ad279.add ((x9_1).toNat * 7)).off + 3, none⟩ = some (.string ((rd_T38 l0 x9_1).f2)) ∧ w17.cell? ⟨(ad279.add ((x9_1).toNat * 7)).block, (ad279.add ((x9_1).toNat * 7)).off + 4, none⟩ = some (.slice A279_4 ((rd_T38 l0 x9_1).f3).length c279_4) ∧ w17.cell? ⟨(ad279.add ((x9_1).toNat * 7)).block, (ad279.add ((x9_1).toNat * 7)).off + 5, none⟩ = some (.bool ((rd_T38 l0 x9_1).f4)) ∧ w17.cell? ⟨(ad279.add ((x9_1).toNat * 7)).block, (ad279.add ((x9_1).toNat * 7)).off + 6, none⟩ = some (.slice A279_6 ((rd_T38 l0 x9_1).f5).length c279_6) := hS_
                refine norm_ (a' := ?_) ?_ ?_
                rotate_left
                · simp only [putAll, Act.put, List.setIfInBounds_toArray, List.set_cons_zero, List.set_cons_succ]
                  rfl
                refine one_ (i := 9) (N := some 10) bN6_ rfl rfl (one_of HT_.out (by kernel_rfl)) (by decide) (fun K hK => ?_)
                refine box_step ?hg (N := 10) ?hd (cs := #[.slice none 0 0]) (t := 26) ?hr ?_; (case hd => rfl); (case hg => rfl); (case hr => first | (go_simp; done) | (go_simp; rfl))
                intro gb288 hg w18 hbox hb
                have n0_ := am_ (Kd.V_below (Kd.V_elderB (vx_ HO_279000) gb288 (Nat.le_of_eq hg.symm)) hb)
                have n1_ := am_ (Kd.V_below (Kd.V_elderB (vx_ HO282) gb288 (Nat.le_of_eq hg.symm)) hb)
                have n2_ := am_ (blk_below (g := gb276) (o := .cells #[.int .u64 a1_0, .int .u64 a1_1] 34 (0, 0)) (bx_ BK276) hb)
                have n3_ := am_ (blk_below (g := gb278) (o := .cells #[.slice Ao13 x279000_1.length co13] 26 (0, 0)) (bx_ BK278) hb)
                have n4_ := am_ (blk_below (g := gb289) (o := .cells #[.int .i64 0, .string (⟨#[]⟩ : ByteArray), .int .u64 0, .bool false, .bool false] 30 (0, 0)) (bx_ BK289) hb)
                have n5_ := am_ (below_step (hx_ HB) hb)
                have n6_ := am_ (hbox)
                have n7_ := am_ ((by rw [hg]; exact (below_size (hx_ HB)) : w.heap.size ≤ gb288))
                have n8_ := am_ ((by rw [hg]; exact (below_size (hx_ HB)) : w.heap.size ≤ gb288))
                have n9_ := am_ ((by rw [hg]; exact Nat.ne_of_lt (blk_lt (g := gb276) (o := .cells #[.int .u64 a1_0, .int .u64 a1_1] 34 (0, 0)) (bx_ BK276)) : gb276 ≠ gb288))
                have n10_ := am_ ((by rw [hg]; exact Nat.ne_of_gt (blk_lt (g := gb276) (o := .cells #[.int .u64 a1_0, .int .u64 a1_1] 34 (0, 0)) (bx_ BK276)) : gb288 ≠ gb276))
                have n11_ := am_ ((by rw [hg]; exact Nat.ne_of_lt (blk_lt (g := gb278) (o := .cells #[.slice Ao13 x279000_1.length co13] 26 (0, 0)) (bx_ BK278)) : gb278 ≠ gb288))
                have n12_ := am_ ((by rw [hg]; exact Nat.ne_of_gt (blk_lt (g := gb278) (o := .cells #[.slice Ao13 x279000_1.length co13] 26 (0, 0)) (bx_ BK278)) : gb288 ≠ gb278))
                have n13_ := am_ ((by rw [hg]; exact Nat.ne_of_lt (blk_lt (g := gb289) (o := .cells #[.int .i64 0, .string (⟨#[]⟩ : ByteArray), .int .u64 0, .bool false, .bool false] 30 (0, 0)) (bx_ BK289)) : gb289 ≠ gb288))
                have n14_ := am_ ((by rw [hg]; exact Nat.ne_of_gt (blk_lt (g := gb289) (o := .cells #[.int .i64 0, .string (⟨#[]⟩ : ByteArray), .int .u64 0, .bool false, .bool false] 30 (0, 0)) (bx_ BK289)) : gb288 ≠ gb289))
                clear HO_279000
                clear HO282
                clear BK276
                clear BK278
                clear BK289
                clear HB
                have HO_279000 := n0_
                have HO282 := n1_
                have BK276 := n2_
                have BK278 := n3_
                have BK289 := n4_
                have HB := n5_
                have BK288 := n6_
                have GW288 := n7_
                have GE288 := n8_
                have NB276_288 := n9_
                have NB288_276 := n10_
                have NB278_288 := n11_
                have NB288_278 := n12_
                have NB289_288 := n13_
                have NB288_289 := n14_
                clear n0_ n1_ n2_ n3_ n4_ n5_ n6_ n7_ n8_ n9_ n10_ n11_ n12_ n13_ n14_
                clear hb hbox hg
                refine hK.out _ _ ⟨(blk_cell BK278.out 0).trans rfl, ((HB.out.cell (World.block_lt_of_cell? w _ hw279_0)).trans hw279_0), ((HB.out.cell (World.block_lt_of_cell? w _ hw279_1)).trans hw279_1), ((HB.out.cell (World.block_lt_of_cell? w _ hw279_2)).trans hw279_2), ((HB.out.cell (World.block_lt_of_cell? w _ hw279_3)).trans hw279_3), ((HB.out.cell (World.block_lt_of_cell? w _ hw279_4)).trans hw279_4), ((HB.out.cell (World.block_lt_of_cell? w _ hw279_5)).trans hw279_5), ((HB.out.cell (World.block_lt_of_cell? w _ hw279_6)).trans hw279_6)⟩ (fun hHeld => ?_)
                clear hK K
                refine norm_ (a' := ?_) ?_ ?_
                rotate_left
                · show Act.put _ (some 10) _ = _
                  simp only [Act.put, List.setIfInBounds_toArray, List.set_cons_zero, List.set_cons_succ, i64_w, i32_w]
                  rfl
                exact norm_ (by first | (simp only [putAll, Act.put, List.setIfInBounds_toArray, List.set_cons_zero, List.set_cons_succ]; done) | (simp only [putAll, Act.put, List.setIfInBounds_toArray, List.set_cons_zero, List.set_cons_succ]; rfl)) (hJ5_9_10 (v281, gb288, gb289) _ ⟨hHeld, (by (with_reducible repeat (first | apply Kd.V_alloc | apply Kd.V_drewN | apply Kd.V_drew)); exact Kd.V_mono HO282.out (fun _ hk => ⟨hk.1.1, ⟨hk.1.2.1, ⟨hk.2, hk.1.2.2⟩⟩⟩)), (by (with_reducible repeat (first | apply Kd.V_alloc | apply Kd.V_drewN | apply Kd.V_drew)); exact Kd.V_mono HO_279000.out (fun _ hk => ⟨hk.1.1, ⟨hk.1.2.1, ⟨hk.2, hk.1.2.2⟩⟩⟩)), (bx_ BK276), (bx_ BK278), (bx_ BK288), (bx_ BK289), GW288.out, GE288.out, NB276_288.out, NB288_276.out, NB278_288.out, NB288_278.out, NB289_288.out, NB288_289.out, GW289.out, GE289.out, NB276_289.out, NB289_276.out, NB278_289.out, NB289_278.out, (hx_ HB)⟩)
            · skip
              rintro ⟨v281, gb288⟩ w17 ⟨hS_, h0_, h1_, h2_, h3_, h4_, h5_, h6_, h7_, h8_, h9_, h10_, h11_⟩
              have n0_ : Aside0 (Kd.V k42 42 w17 w.heap.size (fun k_ => k_ ≠ gb276 ∧ k_ ≠ gb278 ∧ k_ ≠ gb288) v281 t280) := ⟨h0_⟩
              have n1_ : Aside0 (Kd.V k42 42 w17 w.heap.size (fun k_ => k_ ≠ gb276 ∧ k_ ≠ gb278 ∧ k_ ≠ gb288) (.slice Ao13 x279000_1.length co13) x279000_1) := ⟨h1_⟩
              have n2_ : Aside0 (w17.heap[gb276]? = some (.cells #[.int .u64 a1_0, .int .u64 a1_1] 34 (0, 0))) := ⟨h2_⟩
              have n3_ : Aside0 (w17.heap[gb278]? = some (.cells #[.slice Ao13 x279000_1.length co13] 26 (0, 0))) := ⟨h3_⟩
              have n4_ : Aside0 (w17.heap[gb288]? = some (.cells #[.slice none 0 0] 26 (0, 0))) := ⟨h4_⟩
              have n5_ : Aside0 (w.heap.size ≤ gb288) := ⟨h5_⟩
              have n6_ : Aside0 (w.heap.size ≤ gb288) := ⟨h6_⟩
              have n7_ : Aside0 (gb276 ≠ gb288) := ⟨h7_⟩
              have n8_ : Aside0 (gb288 ≠ gb276) := ⟨h8_⟩
              have n9_ : Aside0 (gb278 ≠ gb288) := ⟨h9_⟩
              have n10_ : Aside0 (gb288 ≠ gb278) := ⟨h10_⟩
              have n11_ : Aside0 (Below w.heap.size w w17) := ⟨h11_⟩
              clear HO_279000
              clear BK276
              clear BK278
              clear HB
              clear h0_ h1_ h2_ h3_ h4_ h5_ h6_ h7_ h8_ h9_ h10_ h11_
              have HO282 := n0_
              have HO_279000 := n1_
              have BK276 := n2_
              have BK278 := n3_
              have BK288 := n4_
              have GW288 := n5_
              have GE288 := n6_
              have NB276_288 := n7_
              have NB288_276 := n8_
              have NB278_288 := n9_
              have NB288_278 := n10_
              have HB := n11_
              clear n0_ n1_ n2_ n3_ n4_ n5_ n6_ n7_ n8_ n9_ n10_ n11_
              have hHeld : w17.cell? ⟨gb278, 0, none⟩ = some (.slice Ao13 x279000_1.length co13) ∧ w17.cell? (ad279.add ((x9_1).toNat * 7)) = some (.int .i64 ((rd_T38 l0 x9_1).f0)) ∧ w17.cell? ⟨(ad279.add ((x9_1).toNat * 7)).block, (ad279.add ((x9_1).toNat * 7)).off + 1, none⟩ = some (.int .u64 ((rd_T38 l0 x9_1).f1.f0)) ∧ w17.cell? ⟨(ad279.add ((x9_1).toNat * 7)).block, (ad279.add ((x9_1).toNat * 7)).off + 2, none⟩ = some (.int .u64 ((rd_T38 l0 x9_1).f1.f1)) ∧ w17.cell? ⟨(ad279.add ((x9_1).toNat * 7)).block, (ad279.add ((x9_1).toNat * 7)).off + 3, none⟩ = some (.string ((rd_T38 l0 x9_1).f2)) ∧ w17.cell? ⟨(ad279.add ((x9_1).toNat * 7)).block, (ad279.add ((x9_1).toNat * 7)).off + 4, none⟩ = some (.slice A279_4 ((rd_T38 l0 x9_1).f3).length c279_4) ∧ w17.cell? ⟨(ad279.add ((x9_1).toNat * 7)).block, (ad279.add ((x9_1).toNat * 7)).off + 5, none⟩ = some (.bool ((rd_T38 l0 x9_1).f4)) ∧ w17.cell? ⟨(ad279.add ((x9_1).toNat * 7)).block, (ad279.add ((x9_1).toNat * 7)).off + 6, none⟩ = some (.slice A279_6 ((rd_T38 l0 x9_1).f5).length c279_6) := hS_
              refine norm_ (a' := ?_) ?_ ?_
              rotate_left
              · simp only [putAll, Act.put, List.setIfInBounds_toArray, List.set_cons_zero, List.set_cons_succ]
                rfl
              refine one_ (i := 10) (N := some 11) bN6_ rfl rfl (one_of HT_.out (by kernel_rfl)) (by decide) (fun K hK => ?_)
              refine box_step ?hg (N := 11) ?hd (cs := #[.int .i64 0, .string (⟨#[]⟩ : ByteArray), .int .u64 0, .bool false, .bool false]) (t := 30) ?hr ?_; (case hd => rfl); (case hg => rfl); (case hr => first | (go_simp; done) | (go_simp; rfl))
              intro gb289 hg w18 hbox hb
              have n0_ := am_ (Kd.V_below (Kd.V_elderB (vx_ HO_279000) gb289 (Nat.le_of_eq hg.symm)) hb)
              have n1_ := am_ (Kd.V_below (Kd.V_elderB (vx_ HO282) gb289 (Nat.le_of_eq hg.symm)) hb)
              have n2_ := am_ (blk_below (g := gb276) (o := .cells #[.int .u64 a1_0, .int .u64 a1_1] 34 (0, 0)) (bx_ BK276) hb)
              have n3_ := am_ (blk_below (g := gb278) (o := .cells #[.slice Ao13 x279000_1.length co13] 26 (0, 0)) (bx_ BK278) hb)
              have n4_ := am_ (blk_below (g := gb288) (o := .cells #[.slice none 0 0] 26 (0, 0)) (bx_ BK288) hb)
              have n5_ := am_ (below_step (hx_ HB) hb)
              have n6_ := am_ (hbox)
              have n7_ := am_ ((by rw [hg]; exact (below_size (hx_ HB)) : w.heap.size ≤ gb289))
              have n8_ := am_ ((by rw [hg]; exact (below_size (hx_ HB)) : w.heap.size ≤ gb289))
              have n9_ := am_ ((by rw [hg]; exact Nat.ne_of_lt (blk_lt (g := gb276) (o := .cells #[.int .u64 a1_0, .int .u64 a1_1] 34 (0, 0)) (bx_ BK276)) : gb276 ≠ gb289))
              have n10_ := am_ ((by rw [hg]; exact Nat.ne_of_gt (blk_lt (g := gb276) (o := .cells #[.int .u64 a1_0, .int .u64 a1_1] 34 (0, 0)) (bx_ BK276)) : gb289 ≠ gb276))
              have n11_ := am_ ((by rw [hg]; exact Nat.ne_of_lt (blk_lt (g := gb278) (o := .cells #[.slice Ao13 x279000_1.length co13] 26 (0, 0)) (bx_ BK278)) : gb278 ≠ gb289))
              have n12_ := am_ ((by rw [hg]; exact Nat.ne_of_gt (blk_lt (g := gb278) (o := .cells #[.slice Ao13 x279000_1.length co13] 26 (0, 0)) (bx_ BK278)) : gb289 ≠ gb278))
              have n13_ := am_ ((by rw [hg]; exact Nat.ne_of_lt (blk_lt (g := gb288) (o := .cells #[.slice none 0 0] 26 (0, 0)) (bx_ BK288)) : gb288 ≠ gb289))
              have n14_ := am_ ((by rw [hg]; exact Nat.ne_of_gt (blk_lt (g := gb288) (o := .cells #[.slice none 0 0] 26 (0, 0)) (bx_ BK288)) : gb289 ≠ gb288))
              clear HO_279000
              clear HO282
              clear BK276
              clear BK278
              clear BK288
              clear HB
              have HO_279000 := n0_
              have HO282 := n1_
              have BK276 := n2_
              have BK278 := n3_
              have BK288 := n4_
              have HB := n5_
              have BK289 := n6_
              have GW289 := n7_
              have GE289 := n8_
              have NB276_289 := n9_
              have NB289_276 := n10_
              have NB278_289 := n11_
              have NB289_278 := n12_
              have NB288_289 := n13_
              have NB289_288 := n14_
              clear n0_ n1_ n2_ n3_ n4_ n5_ n6_ n7_ n8_ n9_ n10_ n11_ n12_ n13_ n14_
              clear hb hbox hg
              refine hK.out _ _ ⟨(blk_cell BK278.out 0).trans rfl, ((HB.out.cell (World.block_lt_of_cell? w _ hw279_0)).trans hw279_0), ((HB.out.cell (World.block_lt_of_cell? w _ hw279_1)).trans hw279_1), ((HB.out.cell (World.block_lt_of_cell? w _ hw279_2)).trans hw279_2), ((HB.out.cell (World.block_lt_of_cell? w _ hw279_3)).trans hw279_3), ((HB.out.cell (World.block_lt_of_cell? w _ hw279_4)).trans hw279_4), ((HB.out.cell (World.block_lt_of_cell? w _ hw279_5)).trans hw279_5), ((HB.out.cell (World.block_lt_of_cell? w _ hw279_6)).trans hw279_6)⟩ (fun hHeld => ?_)
              clear hK K
              refine norm_ (a' := ?_) ?_ ?_
              rotate_left
              · show Act.put _ (some 11) _ = _
                simp only [Act.put, List.setIfInBounds_toArray, List.set_cons_zero, List.set_cons_succ, i64_w, i32_w]
                rfl
              exact norm_ (by first | (simp only [putAll, Act.put, List.setIfInBounds_toArray, List.set_cons_zero, List.set_cons_succ]; done) | (simp only [putAll, Act.put, List.setIfInBounds_toArray, List.set_cons_zero, List.set_cons_succ]; rfl)) (hJ5_9_10 (v281, gb288, gb289) _ ⟨hHeld, (by (with_reducible repeat (first | apply Kd.V_alloc | apply Kd.V_drewN | apply Kd.V_drew)); exact Kd.V_mono HO282.out (fun _ hk => ⟨hk.1.1, ⟨hk.1.2.1, ⟨hk.1.2.2, hk.2⟩⟩⟩)), (by (with_reducible repeat (first | apply Kd.V_alloc | apply Kd.V_drewN | apply Kd.V_drew)); exact Kd.V_mono HO_279000.out (fun _ hk => ⟨hk.1.1, ⟨hk.1.2.1, ⟨hk.1.2.2, hk.2⟩⟩⟩)), (bx_ BK276), (bx_ BK278), (bx_ BK288), (bx_ BK289), GW288.out, GE288.out, NB276_288.out, NB288_276.out, NB278_288.out, NB288_278.out, NB289_288.out, NB288_289.out, GW289.out, GE289.out, NB276_289.out, NB289_276.out, NB278_289.out, NB289_278.out, (hx_ HB)⟩)
          rintro ⟨v281, gb288, gb289⟩ w18 ⟨hS_, h0_, h1_, h2_, h3_, h4_, h5_, h6_, h7_, h8_, h9_, h10_, h11_, h12_, h13_, h14_, h15_, h16_, h17_, h18_, h19_, h20_⟩
          have n0_ : Aside0 (Kd.V k42 42 w18 w.heap.size (fun k_ => k_ ≠ gb276 ∧ k_ ≠ gb278 ∧ k_ ≠ gb288 ∧ k_ ≠ gb289) v281 t280) := ⟨h0_⟩
          have n1_ : Aside0 (Kd.V k42 42 w18 w.heap.size (fun k_ => k_ ≠ gb276 ∧ k_ ≠ gb278 ∧ k_ ≠ gb288 ∧ k_ ≠ gb289) (.slice Ao13 x279000_1.length co13) x279000_1) := ⟨h1_⟩
          have n2_ : Aside0 (w18.heap[gb276]? = some (.cells #[.int .u64 a1_0, .int .u64 a1_1] 34 (0, 0))) := ⟨h2_⟩
          have n3_ : Aside0 (w18.heap[gb278]? = some (.cells #[.slice Ao13 x279000_1.length co13] 26 (0, 0))) := ⟨h3_⟩
          have n4_ : Aside0 (w18.heap[gb288]? = some (.cells #[.slice none 0 0] 26 (0, 0))) := ⟨h4_⟩
          have n5_ : Aside0 (w18.heap[gb289]? = some (.cells #[.int .i64 0, .string (⟨#[]⟩ : ByteArray), .int .u64 0, .bool false, .bool false] 30 (0, 0))) := ⟨h5_⟩
          have n6_ : Aside0 (w.heap.size ≤ gb288) := ⟨h6_⟩
          have n7_ : Aside0 (w.heap.size ≤ gb288) := ⟨h7_⟩
          have n8_ : Aside0 (gb276 ≠ gb288) := ⟨h8_⟩
          have n9_ : Aside0 (gb288 ≠ gb276) := ⟨h9_⟩
          have n10_ : Aside0 (gb278 ≠ gb288) := ⟨h10_⟩
          have n11_ : Aside0 (gb288 ≠ gb278) := ⟨h11_⟩
          have n12_ : Aside0 (gb289 ≠ gb288) := ⟨h12_⟩
          have n13_ : Aside0 (gb288 ≠ gb289) := ⟨h13_⟩
          have n14_ : Aside0 (w.heap.size ≤ gb289) := ⟨h14_⟩
          have n15_ : Aside0 (w.heap.size ≤ gb289) := ⟨h15_⟩
          have n16_ : Aside0 (gb276 ≠ gb289) := ⟨h16_⟩
          have n17_ : Aside0 (gb289 ≠ gb276) := ⟨h17_⟩
          have n18_ : Aside0 (gb278 ≠ gb289) := ⟨h18_⟩
          have n19_ : Aside0 (gb289 ≠ gb278) := ⟨h19_⟩
          have n20_ : Aside0 (Below w.heap.size w w18) := ⟨h20_⟩
          clear HO_279000
          clear BK276
          clear BK278
          clear HB
          clear h0_ h1_ h2_ h3_ h4_ h5_ h6_ h7_ h8_ h9_ h10_ h11_ h12_ h13_ h14_ h15_ h16_ h17_ h18_ h19_ h20_
          have HO282 := n0_
          have HO_279000 := n1_
          have BK276 := n2_
          have BK278 := n3_
          have BK288 := n4_
          have BK289 := n5_
          have GW288 := n6_
          have GE288 := n7_
          have NB276_288 := n8_
          have NB288_276 := n9_
          have NB278_288 := n10_
          have NB288_278 := n11_
          have NB289_288 := n12_
          have NB288_289 := n13_
          have GW289 := n14_
          have GE289 := n15_
          have NB276_289 := n16_
          have NB289_276 := n17_
          have NB278_289 := n18_
          have NB289_278 := n19_
          have HB := n20_
          clear n0_ n1_ n2_ n3_ n4_ n5_ n6_ n7_ n8_ n9_ n10_ n11_ n12_ n13_ n14_ n15_ n16_ n17_ n18_ n19_ n20_
          have hHeld : w18.cell? ⟨gb278, 0, none⟩ = some (.slice Ao13 x279000_1.length co13) ∧ w18.cell? (ad279.add ((x9_1).toNat * 7)) = some (.int .i64 ((rd_T38 l0 x9_1).f0)) ∧ w18.cell? ⟨(ad279.add ((x9_1).toNat * 7)).block, (ad279.add ((x9_1).toNat * 7)).off + 1, none⟩ = some (.int .u64 ((rd_T38 l0 x9_1).f1.f0)) ∧ w18.cell? ⟨(ad279.add ((x9_1).toNat * 7)).block, (ad279.add ((x9_1).toNat * 7)).off + 2, none⟩ = some (.int .u64 ((rd_T38 l0 x9_1).f1.f1)) ∧ w18.cell? ⟨(ad279.add ((x9_1).toNat * 7)).block, (ad279.add ((x9_1).toNat * 7)).off + 3, none⟩ = some (.string ((rd_T38 l0 x9_1).f2)) ∧ w18.cell? ⟨(ad279.add ((x9_1).toNat * 7)).block, (ad279.add ((x9_1).toNat * 7)).off + 4, none⟩ = some (.slice A279_4 ((rd_T38 l0 x9_1).f3).length c279_4) ∧ w18.cell? ⟨(ad279.add ((x9_1).toNat * 7)).block, (ad279.add ((x9_1).toNat * 7)).off + 5, none⟩ = some (.bool ((rd_T38 l0 x9_1).f4)) ∧ w18.cell? ⟨(ad279.add ((x9_1).toNat * 7)).block, (ad279.add ((x9_1).toNat * 7)).off + 6, none⟩ = some (.slice A279_6 ((rd_T38 l0 x9_1).f5).length c279_6) := hS_
          obtain ⟨Ao19, co19, eo19⟩ := Kd.V_slice HO282.out
          (first | subst eo19 | (injection eo19 with f1_ f2_ f3_; have f4_ := f1_.symm; have f5_ := f3_.symm; clear f1_ f2_ f3_; subst f4_; subst f5_))
          refine norm_ (a' := ?_) ?_ ?_
          rotate_left
          · simp only [putAll, Act.put, List.setIfInBounds_toArray, List.set_cons_zero, List.set_cons_succ]
            rfl
          refine one_ (i := 11) (N := none) bN25_ rfl rfl (one_of HT_.out (by kernel_rfl)) (by decide) (fun K hK => ?_)
          have hs20 : w18.cell? ⟨gb288, 0, none⟩ = some (.slice none 0 0) := (blk_cell BK288.out 0).trans rfl
          have hfs20 := blk_frozen BK288.out 0
          have hns20_0 := NB276_288.out
          have hns20_1 := NB278_288.out
          have hns20_3 := NB289_288.out
          have hms20_0 := NB288_276.out
          have hms20_1 := NB288_278.out
          have hms20_3 := NB288_289.out
          refine skip_ (w1 := ?_) (by rfl) rfl ?_ ?_
          rotate_left
          · go_simp
            rfl
          refine hK.out _ _ ⟨((cell_far (p := ⟨gb288, _, none⟩) NB278_288.out _).trans (hHeld.1)), ((cell_far (p := ⟨gb288, _, none⟩) (by first | exact Nat.ne_of_lt (Nat.lt_of_lt_of_le (by have := World.block_lt_of_cell? _ _ hw279_0; first | rwa [add_block] at this | exact this) GW288.out) | (rw [add_block]; exact Nat.ne_of_lt (Nat.lt_of_lt_of_le (by have := World.block_lt_of_cell? _ _ hw279_0; first | rwa [add_block] at this | exact this) GW288.out)) | (show (Addr.add _ _).block ≠ _; rw [add_block]; exact Nat.ne_of_lt (Nat.lt_of_lt_of_le (by have := World.block_lt_of_cell? _ _ hw279_0; first | rwa [add_block] at this | exact this) GW288.out)) | (dsimp only; exact Nat.ne_of_lt (Nat.lt_of_lt_of_le (by have := World.block_lt_of_cell? _ _ hw279_0; first | rwa [add_block] at this | exact this) GW288.out))) _).trans (hHeld.2.1)), ((cell_far (p := ⟨gb288, _, none⟩) (by first | exact Nat.ne_of_lt (Nat.lt_of_lt_of_le (by have := World.block_lt_of_cell? _ _ hw279_1; first | rwa [add_block] at this | exact this) GW288.out) | (rw [add_block]; exact Nat.ne_of_lt (Nat.lt_of_lt_of_le (by have := World.block_lt_of_cell? _ _ hw279_1; first | rwa [add_block] at this | exact this) GW288.out)) | (show (Addr.add _ _).block ≠ _; rw [add_block]; exact Nat.ne_of_lt (Nat.lt_of_lt_of_le (by have := World.block_lt_of_cell? _ _ hw279_1; first | rwa [add_block] at this | exact this) GW288.out)) | (dsimp only; exact Nat.ne_of_lt (Nat.lt_of_lt_of_le (by have := World.block_lt_of_cell? _ _ hw279_1; first | rwa [add_block] at this | exact this) GW288.out))) _).trans (hHeld.2.2.1)), ((cell_far (p := ⟨gb288, _, none⟩) (by first | exact Nat.ne_of_lt (Nat.lt_of_lt_of_le (by have := World.block_lt_of_cell? _ _ hw279_2; first | rwa [add_block] at this | exact this) GW288.out) | (rw [add_block]; exact Nat.ne_of_lt (Nat.lt_of_lt_of_le (by have := World.block_lt_of_cell? _ _ hw279_2; first | rwa [add_block] at this | exact this) GW288.out)) | (show (Addr.add _ _).block ≠ _; rw [add_block]; exact Nat.ne_of_lt (Nat.lt_of_lt_of_le (by have := World.block_lt_of_cell? _ _ hw279_2; first | rwa [add_block] at this | exact this) GW288.out)) | (dsimp only; exact Nat.ne_of_lt (Nat.lt_of_lt_of_le (by have := World.block_lt_of_cell? _ _ hw279_2; first | rwa [add_block] at this | exact this) GW288.out))) _).trans (hHeld.2.2.2.1)), ((cell_far (p := ⟨gb288, _, none⟩) (by first | exact Nat.ne_of_lt (Nat.lt_of_lt_of_le (by have := World.block_lt_of_cell? _ _ hw279_3; first | rwa [add_block] at this | exact this) GW288.out) | (rw [add_block]; exact Nat.ne_of_lt (Nat.lt_of_lt_of_le (by have := World.block_lt_of_cell? _ _ hw279_3; first | rwa [add_block] at this | exact this) GW288.out)) | (show (Addr.add _ _).block ≠ _; rw [add_block]; exact Nat.ne_of_lt (Nat.lt_of_lt_of_le (by have := World.block_lt_of_cell? _ _ hw279_3; first | rwa [add_block] at this | exact this) GW288.out)) | (dsimp only; exact Nat.ne_of_lt (Nat.lt_of_lt_of_le (by have := World.block_lt_of_cell? _ _ hw279_3; first | rwa [add_block] at this | exact this) GW288.out))) _).trans (hHeld.2.2.2.2.1)), ((cell_far (p := ⟨gb288, _, none⟩) (by first | exact Nat.ne_of_lt (Nat.lt_of_lt_of_le (by have := World.block_lt_of_cell? _ _ hw279_4; first | rwa [add_block] at this | exact this) GW288.out) | (rw [add_block]; exact Nat.ne_of_lt (Nat.lt_of_lt_of_le (by have := World.block_lt_of_cell? _ _ hw279_4; first | rwa [add_block] at this | exact this) GW288.out)) | (show (Addr.add _ _).block ≠ _; rw [add_block]; exact Nat.ne_of_lt (Nat.lt_of_lt_of_le (by have := World.block_lt_of_cell? _ _ hw279_4; first | rwa [add_block] at this | exact this) GW288.out)) | (dsimp only; exact Nat.ne_of_lt (Nat.lt_of_lt_of_le (by have := World.block_lt_of_cell? _ _ hw279_4; first | rwa [add_block] at this | exact this) GW288.out))) _).trans (hHeld.2.2.2.2.2.1)), ((cell_far (p := ⟨gb288, _, none⟩) (by first | exact Nat.ne_of_lt (Nat.lt_of_lt_of_le (by have := World.block_lt_of_cell? _ _ hw279_5; first | rwa [add_block] at this | exact this) GW288.out) | (rw [add_block]; exact Nat.ne_of_lt (Nat.lt_of_lt_of_le (by have := World.block_lt_of_cell? _ _ hw279_5; first | rwa [add_block] at this | exact this) GW288.out)) | (show (Addr.add _ _).block ≠ _; rw [add_block]; exact Nat.ne_of_lt (Nat.lt_of_lt_of_le (by have := World.block_lt_of_cell? _ _ hw279_5; first | rwa [add_block] at this | exact this) GW288.out)) | (dsimp only; exact Nat.ne_of_lt (Nat.lt_of_lt_of_le (by have := World.block_lt_of_cell? _ _ hw279_5; first | rwa [add_block] at this | exact this) GW288.out))) _).trans (hHeld.2.2.2.2.2.2.1)), ((cell_far (p := ⟨gb288, _, none⟩) (by first | exact Nat.ne_of_lt (Nat.lt_of_lt_of_le (by have := World.block_lt_of_cell? _ _ hw279_6; first | rwa [add_block] at this | exact this) GW288.out) | (rw [add_block]; exact Nat.ne_of_lt (Nat.lt_of_lt_of_le (by have := World.block_lt_of_cell? _ _ hw279_6; first | rwa [add_block] at this | exact this) GW288.out)) | (show (Addr.add _ _).block ≠ _; rw [add_block]; exact Nat.ne_of_lt (Nat.lt_of_lt_of_le (by have := World.block_lt_of_cell? _ _ hw279_6; first | rwa [add_block] at this | exact this) GW288.out)) | (dsimp only; exact Nat.ne_of_lt (Nat.lt_of_lt_of_le (by have := World.block_lt_of_cell? _ _ hw279_6; first | rwa [add_block] at this | exact this) GW288.out))) _).trans (hHeld.2.2.2.2.2.2.2))⟩ (fun hHeld => ?_)
          clear hK K
          refine one_ (i := 12) (N := none) bN26_ rfl rfl (one_of HT_.out (by kernel_rfl)) (by decide) (fun K hK => ?_)
          have hs21 : w18.cell? ⟨gb289, 0, none⟩ = some (.int .i64 0) := (blk_cell BK289.out 0).trans rfl
          have hfs21 := blk_frozen BK289.out 0
          have hns21_0 := NB276_289.out
          have hns21_1 := NB278_289.out
          have hns21_2 := NB288_289.out
          have hms21_0 := NB289_276.out
          have hms21_1 := NB289_278.out
          have hms21_2 := NB289_288.out
          have hs22 : w18.cell? ⟨gb289, 1, none⟩ = some (.string (⟨#[]⟩ : ByteArray)) := (blk_cell BK289.out 1).trans rfl
          have hfs22 := blk_frozen BK289.out 1
          have hns22_0 := NB276_289.out
          have hns22_1 := NB278_289.out
          have hns22_2 := NB288_289.out
          have hms22_0 := NB289_276.out
          have hms22_1 := NB289_278.out
          have hms22_2 := NB289_288.out
          have hs23 : w18.cell? ⟨gb289, 2, none⟩ = some (.int .u64 0) := (blk_cell BK289.out 2).trans rfl
          have hfs23 := blk_frozen BK289.out 2
          have hns23_0 := NB276_289.out
          have hns23_1 := NB278_289.out
          have hns23_2 := NB288_289.out
          have hms23_0 := NB289_276.out
          have hms23_1 := NB289_278.out
          have hms23_2 := NB289_288.out
          have hs24 : w18.cell? ⟨gb289, 3, none⟩ = some (.bool false) := (blk_cell BK289.out 3).trans rfl
          have hfs24 := blk_frozen BK289.out 3
          have hns24_0 := NB276_289.out
          have hns24_1 := NB278_289.out
          have hns24_2 := NB288_289.out
          have hms24_0 := NB289_276.out
          have hms24_1 := NB289_278.out
          have hms24_2 := NB289_288.out
          have hs25 : w18.cell? ⟨gb289, 4, none⟩ = some (.bool false) := (blk_cell BK289.out 4).trans rfl
          have hfs25 := blk_frozen BK289.out 4
          have hns25_0 := NB276_289.out
          have hns25_1 := NB278_289.out
          have hns25_2 := NB288_289.out
          have hms25_0 := NB289_276.out
          have hms25_1 := NB289_278.out
          have hms25_2 := NB289_288.out
          refine skip_ (w1 := ?_) (by rfl) rfl ?_ ?_
          rotate_left
          · go_simp
            rfl
          refine hK.out _ _ ⟨((cell_far (p := ⟨gb289, _, none⟩) NB278_289.out _).trans (((cell_far (p := ⟨gb289, _, none⟩) NB278_289.out _).trans (((cell_far (p := ⟨gb289, _, none⟩) NB278_289.out _).trans (((cell_far (p := ⟨gb289, _, none⟩) NB278_289.out _).trans (((cell_far (p := ⟨gb289, _, none⟩) NB278_289.out _).trans (hHeld.1)))))))))), ((cell_far (p := ⟨gb289, _, none⟩) (by first | exact Nat.ne_of_lt (Nat.lt_of_lt_of_le (by have := World.block_lt_of_cell? _ _ hw279_0; first | rwa [add_block] at this | exact this) GW289.out) | (rw [add_block]; exact Nat.ne_of_lt (Nat.lt_of_lt_of_le (by have := World.block_lt_of_cell? _ _ hw279_0; first | rwa [add_block] at this | exact this) GW289.out)) | (show (Addr.add _ _).block ≠ _; rw [add_block]; exact Nat.ne_of_lt (Nat.lt_of_lt_of_le (by have := World.block_lt_of_cell? _ _ hw279_0; first | rwa [add_block] at this | exact this) GW289.out)) | (dsimp only; exact Nat.ne_of_lt (Nat.lt_of_lt_of_le (by have := World.block_lt_of_cell? _ _ hw279_0; first | rwa [add_block] at this | exact this) GW289.out))) _).trans (((cell_far (p := ⟨gb289, _, none⟩) (by first | exact Nat.ne_of_lt (Nat.lt_of_lt_of_le (by have := World.block_lt_of_cell? _ _ hw279_0; first | rwa [add_block] at this | exact this) GW289.out) | (rw [add_block]; exact Nat.ne_of_lt (Nat.lt_of_lt_of_le (by have := World.block_lt_of_cell? _ _ hw279_0; first | rwa [add_block] at this | exact this) GW289.out)) | (show (Addr.add _ _).block ≠ _; rw [add_block]; exact Nat.ne_of_lt (Nat.lt_of_lt_of_le (by have := World.block_lt_of_cell? _ _ hw279_0; first | rwa [add_block] at this | exact this) GW289.out)) | (dsimp only; exact Nat.ne_of_lt (Nat.lt_of_lt_of_le (by have := World.block_lt_of_cell? _ _ hw279_0; first | rwa [add_block] at this | exact this) GW289.out))) _).trans (((cell_far (p := ⟨gb289, _, none⟩) (by first | exact Nat.ne_of_lt (Nat.lt_of_lt_of_le (by have := World.block_lt_of_cell? _ _ hw279_0; first | rwa [add_block] at this | exact this) GW289.out) | (rw [add_block]; exact Nat.ne_of_lt (Nat.lt_of_lt_of_le (by have := World.block_lt_of_cell? _ _ hw279_0; first | rwa [add_block] at this | exact this) GW289.out)) | (show (Addr.add _ _).block ≠ _; rw [add_block]; exact Nat.ne_of_lt (Nat.lt_of_lt_of_le (by have := World.block_lt_of_cell? _ _ hw279_0; first | rwa [add_block] at this | exact this) GW289.out)) | (dsimp only; exact Nat.ne_of_lt (Nat.lt_of_lt_of_le (by have := World.block_lt_of_cell? _ _ hw279_0; first | rwa [add_block] at this | exact this) GW289.out))) _).trans (((cell_far (p := ⟨gb289, _, none⟩) (by first | exact Nat.ne_of_lt (Nat.lt_of_lt_of_le (by have := World.block_lt_of_cell? _ _ hw279_0; first | rwa [add_block] at this | exact this) GW289.out) | (rw [add_block]; exact Nat.ne_of_lt (Nat.lt_of_lt_of_le (by have := World.block_lt_of_cell? _ _ hw279_0; first | rwa [add_block] at this | exact this) GW289.out)) | (show (Addr.add _ _).block ≠ _; rw [add_block]; exact Nat.ne_of_lt (Nat.lt_of_lt_of_le (by have := World.block_lt_of_cell? _ _ hw279_0; first | rwa [add_block] at this | exact this) GW289.out)) | (dsimp only; exact Nat.ne_of_lt (Nat.lt_of_lt_of_le (by have := World.block_lt_of_cell? _ _ hw279_0; first | rwa [add_block] at this | exact this) GW289.out))) _).trans (((cell_far (p := ⟨gb289, _, none⟩) (by first | exact Nat.ne_of_lt (Nat.lt_of_lt_of_le (by have := World.block_lt_of_cell? _ _ hw279_0; first | rwa [add_block] at this | exact this) GW289.out) | (rw [add_block]; exact Nat.ne_of_lt (Nat.lt_of_lt_of_le (by have := World.block_lt_of_cell? _ _ hw279_0; first | rwa [add_block] at this | exact this) GW289.out)) | (show (Addr.add _ _).block ≠ _; rw [add_block]; exact Nat.ne_of_lt (Nat.lt_of_lt_of_le (by have := World.block_lt_of_cell? _ _ hw279_0; first | rwa [add_block] at this | exact this) GW289.out)) | (dsimp only; exact Nat.ne_of_lt (Nat.lt_of_lt_of_le (by have := World.block_lt_of_cell? _ _ hw279_0; first | rwa [add_block] at this | exact this) GW289.out))) _).trans (hHeld.2.1)))))))))), ((cell_far (p := ⟨gb289, _, none⟩) (by first | exact Nat.ne_of_lt (Nat.lt_of_lt_of_le (by have := World.block_lt_of_cell? _ _ hw279_1; first | rwa [add_block] at this | exact this) GW289.out) | (rw [add_block]; exact Nat.ne_of_lt (Nat.lt_of_lt_of_le (by have := World.block_lt_of_cell? _ _ hw279_1; first | rwa [add_block] at this | exact this) GW289.out)) | (show (Addr.add _ _).block ≠ _; rw [add_block]; exact Nat.ne_of_lt (Nat.lt_of_lt_of_le (by have := World.block_lt_of_cell? _ _ hw279_1; first | rwa [add_block] at this | exact this) GW289.out)) | (dsimp only; exact Nat.ne_of_lt (Nat.lt_of_lt_of_le (by have := World.block_lt_of_cell? _ _ hw279_1; first | rwa [add_block] at this | exact this) GW289.out))) _).trans (((cell_far (p := ⟨gb289, _, none⟩) (by first | exact Nat.ne_of_lt (Nat.lt_of_lt_of_le (by have := World.block_lt_of_cell? _ _ hw279_1; first | rwa [add_block] at this | exact this) GW289.out) | (rw [add_block]; exact Nat.ne_of_lt (Nat.lt_of_lt_of_le (by have := World.block_lt_of_cell? _ _ hw279_1; first | rwa [add_block] at this | exact this) GW289.out)) | (show (Addr.add _ _).block ≠ _; rw [add_block]; exact Nat.ne_of_lt (Nat.lt_of_lt_of_le (by have := World.block_lt_of_cell? _ _ hw279_1; first | rwa [add_block] at this | exact this) GW289.out)) | (dsimp only; exact Nat.ne_of_lt (Nat.lt_of_lt_of_le (by have := World.block_lt_of_cell? _ _ hw279_1; first | rwa [add_block] at this | exact this) GW289.out))) _).trans (((cell_far (p := ⟨gb289, _, none⟩) (by first | exact Nat.ne_of_lt (Nat.lt_of_lt_of_le (by have := World.block_lt_of_cell? _ _ hw279_1; first | rwa [add_block] at this | exact this) GW289.out) | (rw [add_block]; exact Nat.ne_of_lt (Nat.lt_of_lt_of_le (by have := World.block_lt_of_cell? _ _ hw279_1; first | rwa [add_block] at this | exact this) GW289.out)) | (show (Addr.add _ _).block ≠ _; rw [add_block]; exact Nat.ne_of_lt (Nat.lt_of_lt_of_le (by have := World.block_lt_of_cell? _ _ hw279_1; first | rwa [add_block] at this | exact this) GW289.out)) | (dsimp only; exact Nat.ne_of_lt (Nat.lt_of_lt_of_le (by have := World.block_lt_of_cell? _ _ hw279_1; first | rwa [add_block] at this | exact this) GW289.out))) _).trans (((cell_far (p := ⟨gb289, _, none⟩) (by first | exact Nat.ne_of_lt (Nat.lt_of_lt_of_le (by have := World.block_lt_of_cell? _ _ hw279_1; first | rwa [add_block] at this | exact this) GW289.out) | (rw [add_block]; exact Nat.ne_of_lt (Nat.lt_of_lt_of_le (by have := World.block_lt_of_cell? _ _ hw279_1; first | rwa [add_block] at this | exact this) GW289.out)) | (show (Addr.add _ _).block ≠ _; rw [add_block]; exact Nat.ne_of_lt (Nat.lt_of_lt_of_le (by have := World.block_lt_of_cell? _ _ hw279_1; first | rwa [add_block] at this | exact this) GW289.out)) | (dsimp only; exact Nat.ne_of_lt (Nat.lt_of_lt_of_le (by have := World.block_lt_of_cell? _ _ hw279_1; first | rwa [add_block] at this | exact this) GW289.out))) _).trans (((cell_far (p := ⟨gb289, _, none⟩) (by first | exact Nat.ne_of_lt (Nat.lt_of_lt_of_le (by have := World.block_lt_of_cell? _ _ hw279_1; first | rwa [add_block] at this | exact this) GW289.out) | (rw [add_block]; exact Nat.ne_of_lt (Nat.lt_of_lt_of_le (by have := World.block_lt_of_cell? _ _ hw279_1; first | rwa [add_block] at this | exact this) GW289.out)) | (show (Addr.add _ _).block ≠ _; rw [add_block]; exact Nat.ne_of_lt (Nat.lt_of_lt_of_le (by have := World.block_lt_of_cell? _ _ hw279_1; first | rwa [add_block] at this | exact this) GW289.out)) | (dsimp only; exact Nat.ne_of_lt (Nat.lt_of_lt_of_le (by have := World.block_lt_of_cell? _ _ hw279_1; first | rwa [add_block] at this | exact this) GW289.out))) _).trans (hHeld.2.2.1)))))))))), ((cell_far (p := ⟨gb289, _, none⟩) (by first | exact Nat.ne_of_lt (Nat.lt_of_lt_of_le (by have := World.block_lt_of_cell? _ _ hw279_2; first | rwa [add_block] at this | exact this) GW289.out) | (rw [add_block]; exact Nat.ne_of_lt (Nat.lt_of_lt_of_le (by have := World.block_lt_of_cell? _ _ hw279_2; first | rwa [add_block] at this | exact this) GW289.out)) | (show (Addr.add _ _).block ≠ _; rw [add_block]; exact Nat.ne_of_lt (Nat.lt_of_lt_of_le (by have := World.block_lt_of_cell? _ _ hw279_2; first | rwa [add_block] at this | exact this) GW289.out)) | (dsimp only; exact Nat.ne_of_lt (Nat.lt_of_lt_of_le (by have := World.block_lt_of_cell? _ _ hw279_2; first | rwa [add_block] at this | exact this) GW289.out))) _).trans (((cell_far (p := ⟨gb289, _, none⟩) (by first | exact Nat.ne_of_lt (Nat.lt_of_lt_of_le (by have := World.block_lt_of_cell? _ _ hw279_2; first | rwa [add_block] at this | exact this) GW289.out) | (rw [add_block]; exact Nat.ne_of_lt (Nat.lt_of_lt_of_le (by have := World.block_lt_of_cell? _ _ hw279_2; first | rwa [add_block] at this | exact this) GW289.out)) | (show (Addr.add _ _).block ≠ _; rw [add_block]; exact Nat.ne_of_lt (Nat.lt_of_lt_of_le (by have := World.block_lt_of_cell? _ _ hw279_2; first | rwa [add_block] at this | exact this) GW289.out)) | (dsimp only; exact Nat.ne_of_lt (Nat.lt_of_lt_of_le (by have := World.block_lt_of_cell? _ _ hw279_2; first | rwa [add_block] at this | exact this) GW289.out))) _).trans (((cell_far (p := ⟨gb289, _, none⟩) (by first | exact Nat.ne_of_lt (Nat.lt_of_lt_of_le (by have := World.block_lt_of_cell? _ _ hw279_2; first | rwa [add_block] at this | exact this) GW289.out) | (rw [add_block]; exact Nat.ne_of_lt (Nat.lt_of_lt_of_le (by have := World.block_lt_of_cell? _ _ hw279_2; first | rwa [add_block] at this | exact this) GW289.out)) | (show (Addr.add _ _).block ≠ _; rw [add_block]; exact Nat.ne_of_lt (Nat.lt_of_lt_of_le (by have := World.block_lt_of_cell? _ _ hw279_2; first | rwa [add_block] at this | exact this) GW289.out)) | (dsimp only; exact Nat.ne_of_lt (Nat.lt_of_lt_of_le (by have := World.block_lt_of_cell? _ _ hw279_2; first | rwa [add_block] at this | exact this) GW289.out))) _).trans (((cell_far (p := ⟨gb289, _, none⟩) (by first | exact Nat.ne_of_lt (Nat.lt_of_lt_of_le (by have := World.block_lt_of_cell? _ _ hw279_2; first | rwa [add_block] at this | exact this) GW289.out) | (rw [add_block]; exact Nat.ne_of_lt (Nat.lt_of_lt_of_le (by have := World.block_lt_of_cell? _ _ hw279_2; first | rwa [add_block] at this | exact this) GW289.out)) | (show (Addr.add _ _).block ≠ _; rw [add_block]; exact Nat.ne_of_lt (Nat.lt_of_lt_of_le (by have := World.block_lt_of_cell? _ _ hw279_2; first | rwa [add_block] at this | exact this) GW289.out)) | (dsimp only; exact Nat.ne_of_lt (Nat.lt_of_lt_of_le (by have := World.block_lt_of_cell? _ _ hw279_2; first | rwa [add_block] at this | exact this) GW289.out))) _).trans (((cell_far (p := ⟨gb289, _, none⟩) (by first | exact Nat.ne_of_lt (Nat.lt_of_lt_of_le (by have := World.block_lt_of_cell? _ _ hw279_2; first | rwa [add_block] at this | exact this) GW289.out) | (rw [add_block]; exact Nat.ne_of_lt (Nat.lt_of_lt_of_le (by have := World.block_lt_of_cell? _ _ hw279_2; first | rwa [add_block] at this | exact this) GW289.out)) | (show (Addr.add _ _).block ≠ _; rw [add_block]; exact Nat.ne_of_lt (Nat.lt_of_lt_of_le (by have := World.block_lt_of_cell? _ _ hw279_2; first | rwa [add_block] at this | exact this) GW289.out)) | (dsimp only; exact Nat.ne_of_lt (Nat.lt_of_lt_of_le (by have := World.block_lt_of_cell? _ _ hw279_2; first | rwa [add_block] at this | exact this) GW289.out))) _).trans (hHeld.2.2.2.1)))))))))), ((cell_far (p := ⟨gb289, _, none⟩) (by first | exact Nat.ne_of_lt (Nat.lt_of_lt_of_le (by have := World.block_lt_of_cell? _ _ hw279_3; first | rwa [add_block] at this | exact this) GW289.out) | (rw [add_block]; exact Nat.ne_of_lt (Nat.lt_of_lt_of_le (by have := World.block_lt_of_cell? _ _ hw279_3; first | rwa [add_block] at this | exact this) GW289.out)) | (show (Addr.add _ _).block ≠ _; rw [add_block]; exact Nat.ne_of_lt (Nat.lt_of_lt_of_le (by have := World.block_lt_of_cell? _ _ hw279_3; first | rwa [add_block] at this | exact this) GW289.out)) | (dsimp only; exact Nat.ne_of_lt (Nat.lt_of_lt_of_le (by have := World.block_lt_of_cell? _ _ hw279_3; first | rwa [add_block] at this | exact this) GW289.out))) _).trans (((cell_far (p := ⟨gb289, _, none⟩) (by first | exact Nat.ne_of_lt (Nat.lt_of_lt_of_le (by have := World.block_lt_of_cell? _ _ hw279_3; first | rwa [add_block] at this | exact this) GW289.out) | (rw [add_block]; exact Nat.ne_of_lt (Nat.lt_of_lt_of_le (by have := World.block_lt_of_cell? _ _ hw279_3; first | rwa [add_block] at this | exact this) GW289.out)) | (show (Addr.add _ _).block ≠ _; rw [add_block]; exact Nat.ne_of_lt (Nat.lt_of_lt_of_le (by have := World.block_lt_of_cell? _ _ hw279_3; first | rwa [add_block] at this | exact this) GW289.out)) | (dsimp only; exact Nat.ne_of_lt (Nat.lt_of_lt_of_le (by have := World.block_lt_of_cell? _ _ hw279_3; first | rwa [add_block] at this | exact this) GW289.out))) _).trans (((cell_far (p := ⟨gb289, _, none⟩) (by first | exact Nat.ne_of_lt (Nat.lt_of_lt_of_le (by have := World.block_lt_of_cell? _ _ hw279_3; first | rwa [add_block] at this | exact this) GW289.out) | (rw [add_block]; exact Nat.ne_of_lt (Nat.lt_of_lt_of_le (by have := World.block_lt_of_cell? _ _ hw279_3; first | rwa [add_block] at this | exact this) GW289.out)) | (show (Addr.add _ _).block ≠ _; rw [add_block]; exact Nat.ne_of_lt (Nat.lt_of_lt_of_le (by have := World.block_lt_of_cell? _ _ hw279_3; first | rwa [add_block] at this | exact this) GW289.out)) | (dsimp only; exact Nat.ne_of_lt (Nat.lt_of_lt_of_le (by have := World.block_lt_of_cell? _ _ hw279_3; first | rwa [add_block] at this | exact this) GW289.out))) _).trans (((cell_far (p := ⟨gb289, _, none⟩) (by first | exact Nat.ne_of_lt (Nat.lt_of_lt_of_le (by have := World.block_lt_of_cell? _ _ hw279_3; first | rwa [add_block] at this | exact this) GW289.out) | (rw [add_block]; exact Nat.ne_of_lt (Nat.lt_of_lt_of_le (by have := World.block_lt_of_cell? _ _ hw279_3; first | rwa [add_block] at this | exact this) GW289.out)) | (show (Addr.add _ _).block ≠ _; rw [add_block]; exact Nat.ne_of_lt (Nat.lt_of_lt_of_le (by have := World.block_lt_of_cell? _ _ hw279_3; first | rwa [add_block] at this | exact this) GW289.out)) | (dsimp only; exact Nat.ne_of_lt (Nat.lt_of_lt_of_le (by have := World.block_lt_of_cell? _ _ hw279_3; first | rwa [add_block] at this | exact this) GW289.out))) _).trans (((cell_far (p := ⟨gb289, _, none⟩) (by first | exact Nat.ne_of_lt (Nat.lt_of_lt_of_le (by have := World.block_lt_of_cell? _ _ hw279_3; first | rwa [add_block] at this | exact this) GW289.out) | (rw [add_block]; exact Nat.ne_of_lt (Nat.lt_of_lt_of_le (by have := World.block_lt_of_cell? _ _ hw279_3; first | rwa [add_block] at this | exact this) GW289.out)) | (show (Addr.add _ _).block ≠ _; rw [add_block]; exact Nat.ne_of_lt (Nat.lt_of_lt_of_le (by have := World.block_lt_of_cell? _ _ hw279_3; first | rwa [add_block] at this | exact this) GW289.out)) | (dsimp only; exact Nat.ne_of_lt (Nat.lt_of_lt_of_le (by have := World.block_lt_of_cell? _ _ hw279_3; first | rwa [add_block] at this | exact this) GW289.out))) _).trans (hHeld.2.2.2.2.1)))))))))), ((cell_far (p := ⟨gb289, _, none⟩) (by first | exact Nat.ne_of_lt (Nat.lt_of_lt_of_le (by have := World.block_lt_of_cell? _ _ hw279_4; first | rwa [add_block] at this | exact this) GW289.out) | (rw [add_block]; exact Nat.ne_of_lt (Nat.lt_of_lt_of_le (by have := World.block_lt_of_cell? _ _ hw279_4; first | rwa [add_block] at this | exact this) GW289.out)) | (show (Addr.add _ _).block ≠ _; rw [add_block]; exact Nat.ne_of_lt (Nat.lt_of_lt_of_le (by have := World.block_lt_of_cell? _ _ hw279_4; first | rwa [add_block] at this | exact this) GW289.out)) | (dsimp only; exact Nat.ne_of_lt (Nat.lt_of_lt_of_le (by have := World.block_lt_of_cell? _ _ hw279_4; first | rwa [add_block] at this | exact this) GW289.out))) _).trans (((cell_far (p := ⟨gb289, _, none⟩) (by first | exact Nat.ne_of_lt (Nat.lt_of_lt_of_le (by have := World.block_lt_of_cell? _ _ hw279_4; first | rwa [add_block] at this | exact this) GW289.out) | (rw [add_block]; exact Nat.ne_of_lt (Nat.lt_of_lt_of_le (by have := World.block_lt_of_cell? _ _ hw279_4; first | rwa [add_block] at this | exact this) GW289.out)) | (show (Addr.add _ _).block ≠ _; rw [add_block]; exact Nat.ne_of_lt (Nat.lt_of_lt_of_le (by have := World.block_lt_of_cell? _ _ hw279_4; first | rwa [add_block] at this | exact this) GW289.out)) | (dsimp only; exact Nat.ne_of_lt (Nat.lt_of_lt_of_le (by have := World.block_lt_of_cell? _ _ hw279_4; first | rwa [add_block] at this | exact this) GW289.out))) _).trans (((cell_far (p := ⟨gb289, _, none⟩) (by first | exact Nat.ne_of_lt (Nat.lt_of_lt_of_le (by have := World.block_lt_of_cell? _ _ hw279_4; first | rwa [add_block] at this | exact this) GW289.out) | (rw [add_block]; exact Nat.ne_of_lt (Nat.lt_of_lt_of_le (by have := World.block_lt_of_cell? _ _ hw279_4; first | rwa [add_block] at this | exact this) GW289.out)) | (show (Addr.add _ _).block ≠ _; rw [add_block]; exact Nat.ne_of_lt (Nat.lt_of_lt_of_le (by have := World.block_lt_of_cell? _ _ hw279_4; first | rwa [add_block] at this | exact this) GW289.out)) | (dsimp only; exact Nat.ne_of_lt (Nat.lt_of_lt_of_le (by have := World.block_lt_of_cell? _ _ hw279_4; first | rwa [add_block] at this | exact this) GW289.out))) _).trans (((cell_far (p := ⟨gb289, _, none⟩) (by first | exact Nat.ne_of_lt (Nat.lt_of_lt_of_le (by have := World.block_lt_of_cell? _ _ hw279_4; first | rwa [add_block] at this | exact this) GW289.out) | (rw [add_block]; exact Nat.ne_of_lt (Nat.lt_of_lt_of_le (by have := World.block_lt_of_cell? _ _ hw279_4; first | rwa [add_block] at this | exact this) GW289.out)) | (show (Addr.add _ _).block ≠ _; rw [add_block]; exact Nat.ne_of_lt (Nat.lt_of_lt_of_le (by have := World.block_lt_of_cell? _ _ hw279_4; first | rwa [add_block] at this | exact this) GW289.out)) | (dsimp only; exact Nat.ne_of_lt (Nat.lt_of_lt_of_le (by have := World.block_lt_of_cell? _ _ hw279_4; first | rwa [add_block] at this | exact this) GW289.out))) _).trans (((cell_far (p := ⟨gb289, _, none⟩) (by first | exact Nat.ne_of_lt (Nat.lt_of_lt_of_le (by have := World.block_lt_of_cell? _ _ hw279_4; first | rwa [add_block] at this | exact this) GW289.out) | (rw [add_block]; exact Nat.ne_of_lt (Nat.lt_of_lt_of_le (by have := World.block_lt_of_cell? _ _ hw279_4; first | rwa [add_block] at this | exact this) GW289.out)) | (show (Addr.add _ _).block ≠ _; rw [add_block]; exact Nat.ne_of_lt (Nat.lt_of_lt_of_le (by have := World.block_lt_of_cell? _ _ hw279_4; first | rwa [add_block] at this | exact this) GW289.out)) | (dsimp only; exact Nat.ne_of_lt (Nat.lt_of_lt_of_le (by have := World.block_lt_of_cell? _ _ hw279_4; first | rwa [add_block] at this | exact this) GW289.out))) _).trans (hHeld.2.2.2.2.2.1)))))))))), ((cell_far (p := ⟨gb289, _, none⟩) (by first | exact Nat.ne_of_lt (Nat.lt_of_lt_of_le (by have := World.block_lt_of_cell? _ _ hw279_5; first | rwa [add_block] at this | exact this) GW289.out) | (rw [add_block]; exact Nat.ne_of_lt (Nat.lt_of_lt_of_le (by have := World.block_lt_of_cell? _ _ hw279_5; first | rwa [add_block] at this | exact this) GW289.out)) | (show (Addr.add _ _).block ≠ _; rw [add_block]; exact Nat.ne_of_lt (Nat.lt_of_lt_of_le (by have := World.block_lt_of_cell? _ _ hw279_5; first | rwa [add_block] at this | exact this) GW289.out)) | (dsimp only; exact Nat.ne_of_lt (Nat.lt_of_lt_of_le (by have := World.block_lt_of_cell? _ _ hw279_5; first | rwa [add_block] at this | exact this) GW289.out))) _).trans (((cell_far (p := ⟨gb289, _, none⟩) (by first | exact Nat.ne_of_lt (Nat.lt_of_lt_of_le (by have := World.block_lt_of_cell? _ _ hw279_5; first | rwa [add_block] at this | exact this) GW289.out) | (rw [add_block]; exact Nat.ne_of_lt (Nat.lt_of_lt_of_le (by have := World.block_lt_of_cell? _ _ hw279_5; first | rwa [add_block] at this | exact this) GW289.out)) | (show (Addr.add _ _).block ≠ _; rw [add_block]; exact Nat.ne_of_lt (Nat.lt_of_lt_of_le (by have := World.block_lt_of_cell? _ _ hw279_5; first | rwa [add_block] at this | exact this) GW289.out)) | (dsimp only; exact Nat.ne_of_lt (Nat.lt_of_lt_of_le (by have := World.block_lt_of_cell? _ _ hw279_5; first | rwa [add_block] at this | exact this) GW289.out))) _).trans (((cell_far (p := ⟨gb289, _, none⟩) (by first | exact Nat.ne_of_lt (Nat.lt_of_lt_of_le (by have := World.block_lt_of_cell? _ _ hw279_5; first | rwa [add_block] at this | exact this) GW289.out) | (rw [add_block]; exact Nat.ne_of_lt (Nat.lt_of_lt_of_le (by have := World.block_lt_of_cell? _ _ hw279_5; first | rwa [add_block] at this | exact this) GW289.out)) | (show (Addr.add _ _).block ≠ _; rw [add_block]; exact Nat.ne_of_lt (Nat.lt_of_lt_of_le (by have := World.block_lt_of_cell? _ _ hw279_5; first | rwa [add_block] at this | exact this) GW289.out)) | (dsimp only; exact Nat.ne_of_lt (Nat.lt_of_lt_of_le (by have := World.block_lt_of_cell? _ _ hw279_5; first | rwa [add_block] at this | exact this) GW289.out))) _).trans (((cell_far (p := ⟨gb289, _, none⟩) (by first | exact Nat.ne_of_lt (Nat.lt_of_lt_of_le (by have := World.block_lt_of_cell? _ _ hw279_5; first | rwa [add_block] at this | exact this) GW289.out) | (rw [add_block]; exact Nat.ne_of_lt (Nat.lt_of_lt_of_le (by have := World.block_lt_of_cell? _ _ hw279_5; first | rwa [add_block] at this | exact this) GW289.out)) | (show (Addr.add _ _).block ≠ _; rw [add_block]; exact Nat.ne_of_lt (Nat.lt_of_lt_of_le (by have := World.block_lt_of_cell? _ _ hw279_5; first | rwa [add_block] at this | exact this) GW289.out)) | (dsimp only; exact Nat.ne_of_lt (Nat.lt_of_lt_of_le (by have := World.block_lt_of_cell? _ _ hw279_5; first | rwa [add_block] at this | exact this) GW289.out))) _).trans (((cell_far (p := ⟨gb289, _, none⟩) (by first | exact Nat.ne_of_lt (Nat.lt_of_lt_of_le (by have := World.block_lt_of_cell? _ _ hw279_5; first | rwa [add_block] at this | exact this) GW289.out) | (rw [add_block]; exact Nat.ne_of_lt (Nat.lt_of_lt_of_le (by have := World.block_lt_of_cell? _ _ hw279_5; first | rwa [add_block] at this | exact this) GW289.out)) | (show (Addr.add _ _).block ≠ _; rw [add_block]; exact Nat.ne_of_lt (Nat.lt_of_lt_of_le (by have := World.block_lt_of_cell? _ _ hw279_5; first | rwa [add_block] at this | exact this) GW289.out)) | (dsimp only; exact Nat.ne_of_lt (Nat.lt_of_lt_of_le (by have := World.block_lt_of_cell? _ _ hw279_5; first | rwa [add_block] at this | exact this) GW289.out))) _).trans (hHeld.2.2.2.2.2.2.1)))))))))), ((cell_far (p := ⟨gb289, _, none⟩) (by first | exact Nat.ne_of_lt (Nat.lt_of_lt_of_le (by have := World.block_lt_of_cell? _ _ hw279_6; first | rwa [add_block] at this | exact this) GW289.out) | (rw [add_block]; exact Nat.ne_of_lt (Nat.lt_of_lt_of_le (by have := World.block_lt_of_cell? _ _ hw279_6; first | rwa [add_block] at this | exact this) GW289.out)) | (show (Addr.add _ _).block ≠ _; rw [add_block]; exact Nat.ne_of_lt (Nat.lt_of_lt_of_le (by have := World.block_lt_of_cell? _ _ hw279_6; first | rwa [add_block] at this | exact this) GW289.out)) | (dsimp only; exact Nat.ne_of_lt (Nat.lt_of_lt_of_le (by have := World.block_lt_of_cell? _ _ hw279_6; first | rwa [add_block] at this | exact this) GW289.out))) _).trans (((cell_far (p := ⟨gb289, _, none⟩) (by first | exact Nat.ne_of_lt (Nat.lt_of_lt_of_le (by have := World.block_lt_of_cell? _ _ hw279_6; first | rwa [add_block] at this | exact this) GW289.out) | (rw [add_block]; exact Nat.ne_of_lt (Nat.lt_of_lt_of_le (by have := World.block_lt_of_cell? _ _ hw279_6; first | rwa [add_block] at this | exact this) GW289.out)) | (show (Addr.add _ _).block ≠ _; rw [add_block]; exact Nat.ne_of_lt (Nat.lt_of_lt_of_le (by have := World.block_lt_of_cell? _ _ hw279_6; first | rwa [add_block] at this | exact this) GW289.out)) | (dsimp only; exact Nat.ne_of_lt (Nat.lt_of_lt_of_le (by have := World.block_lt_of_cell? _ _ hw279_6; first | rwa [add_block] at this | exact this) GW289.out))) _).trans (((cell_far (p := ⟨gb289, _, none⟩) (by first | exact Nat.ne_of_lt (Nat.lt_of_lt_of_le (by have := World.block_lt_of_cell? _ _ hw279_6; first | rwa [add_block] at this | exact this) GW289.out) | (rw [add_block]; exact Nat.ne_of_lt (Nat.lt_of_lt_of_le (by have := World.block_lt_of_cell? _ _ hw279_6; first | rwa [add_block] at this | exact this) GW289.out)) | (show (Addr.add _ _).block ≠ _; rw [add_block]; exact Nat.ne_of_lt (Nat.lt_of_lt_of_le (by have := World.block_lt_of_cell? _ _ hw279_6; first | rwa [add_block] at this | exact this) GW289.out)) | (dsimp only; exact Nat.ne_of_lt (Nat.lt_of_lt_of_le (by have := World.block_lt_of_cell? _ _ hw279_6; first | rwa [add_block] at this | exact this) GW289.out))) _).trans (((cell_far (p := ⟨gb289, _, none⟩) (by first | exact Nat.ne_of_lt (Nat.lt_of_lt_of_le (by have := World.block_lt_of_cell? _ _ hw279_6; first | rwa [add_block] at this | exact this) GW289.out) | (rw [add_block]; exact Nat.ne_of_lt (Nat.lt_of_lt_of_le (by have := World.block_lt_of_cell? _ _ hw279_6; first | rwa [add_block] at this | exact this) GW289.out)) | (show (Addr.add _ _).block ≠ _; rw [add_block]; exact Nat.ne_of_lt (Nat.lt_of_lt_of_le (by have := World.block_lt_of_cell? _ _ hw279_6; first | rwa [add_block] at this | exact this) GW289.out)) | (dsimp only; exact Nat.ne_of_lt (Nat.lt_of_lt_of_le (by have := World.block_lt_of_cell? _ _ hw279_6; first | rwa [add_block] at this | exact this) GW289.out))) _).trans (((cell_far (p := ⟨gb289, _, none⟩) (by first | exact Nat.ne_of_lt (Nat.lt_of_lt_of_le (by have := World.block_lt_of_cell? _ _ hw279_6; first | rwa [add_block] at this | exact this) GW289.out) | (rw [add_block]; exact Nat.ne_of_lt (Nat.lt_of_lt_of_le (by have := World.block_lt_of_cell? _ _ hw279_6; first | rwa [add_block] at this | exact this) GW289.out)) | (show (Addr.add _ _).block ≠ _; rw [add_block]; exact Nat.ne_of_lt (Nat.lt_of_lt_of_le (by have := World.block_lt_of_cell? _ _ hw279_6; first | rwa [add_block] at this | exact this) GW289.out)) | (dsimp only; exact Nat.ne_of_lt (Nat.lt_of_lt_of_le (by have := World.block_lt_of_cell? _ _ hw279_6; first | rwa [add_block] at this | exact this) GW289.out))) _).trans (hHeld.2.2.2.2.2.2.2))))))))))⟩ (fun hHeld => ?_)
          clear hK K
          refine done_ (done_of HT_.out (by kernel_rfl)) ?_
          have hnb26 := NB288_276.out
          have hnc26 := NB276_288.out
          have hnb27 := NB288_278.out
          have hnc27 := NB278_288.out
          have hnb28 := NB288_289.out
          have hnc28 := NB289_288.out
          have hcz29_0 : w18.cell? ⟨gb288, 0, none⟩ = some (.slice none 0 0) := (blk_cell BK288.out 0).trans rfl
          have hfz29_0 := blk_frozen BK288.out 0
          have hnb30 := NB278_276.out
          have hnc30 := NB276_278.out
          have hnb31 := NB278_289.out
          have hnc31 := NB289_278.out
          have hcz32_0 : w18.cell? ⟨gb278, 0, none⟩ = some (.slice Ao13 x279000_1.length co13) := (blk_cell BK278.out 0).trans rfl
          have hfz32_0 := blk_frozen BK278.out 0
          go_upto_region 10 with (fail)
          go_cut [41] (fun v41 wc => ∃ (kq : Nat) (x41_11 : Bool), v41 = .bool x41_11 ∧ Aside0 (ferrulelaw14_CoordCommits.j1 kq l0 t277 x7_1 x8_1 x9_1 x41_11 a1_0 a1_1 t280 t283 t284 t285 t286 t287 = some r) ∧ Aside0 (kq ≤ k1) ∧ Aside0 (Kd.V k42 42 wc w.heap.size (fun k_ => k_ ≠ gb276 ∧ k_ ≠ gb278 ∧ k_ ≠ gb288 ∧ k_ ≠ gb289) (.slice Ao19 t280.length co19) t280) ∧ Aside0 (Kd.V k42 42 wc w.heap.size (fun k_ => k_ ≠ gb276 ∧ k_ ≠ gb278 ∧ k_ ≠ gb288 ∧ k_ ≠ gb289) (.slice Ao19 t280.length co19) t280) ∧ Aside0 (wc.heap[gb276]? = some (.cells #[.int .u64 a1_0, .int .u64 a1_1] 34 (0, 0))) ∧ Aside0 (wc.heap[gb278]? = some (.cells #[(.slice Ao19 t280.length co19)] 26 (0, 0))) ∧ Aside0 (wc.heap[gb288]? = some (.cells #[(.slice Ao19 t280.length co19)] 26 (0, 0))) ∧ Aside0 (wc.heap[gb289]? = some (.cells #[.int .i64 t283, .string t284, .int .u64 t285, .bool t286, .bool t287] 30 (0, 0))) ∧ Aside0 (Below w.heap.size w wc))
          case first =>
            have H := HC12.out
            clear HC12
            by_cases c33 : (!(((rd_T38 l0 x9_1).f1.f0) == a1_0) || (!(((rd_T38 l0 x9_1).f1.f1) == a1_1))) = true
            · rw [if_pos c33] at H
              have c33b0 : (!(((rd_T38 l0 x9_1).f1.f0) == a1_0) || (!(((rd_T38 l0 x9_1).f1.f1) == a1_1))) = true := c33
              clear c33
              (first | rw [c33b0] | (simp only [i64_w, i32_w]; rw [c33b0]) | skip)
              have H' := am_ H
              clear H
              try go_wp2
              have n0_ : Aside0 (Kd.V k42 42 (((((((w18.setCell ⟨gb288, 0, none⟩ (.slice Ao19 t280.length co19)).setCell ⟨gb289, 0, none⟩ (.int .i64 t283)).setCell ⟨gb289, 1, none⟩ (.string t284)).setCell ⟨gb289, 2, none⟩ (.int .u64 t285)).setCell ⟨gb289, 3, none⟩ (.bool t286)).setCell ⟨gb289, 4, none⟩ (.bool t287)).setCell ⟨gb278, 0, none⟩ (.slice Ao19 t280.length co19)) w.heap.size (fun k_ => k_ ≠ gb276 ∧ k_ ≠ gb278 ∧ k_ ≠ gb288 ∧ k_ ≠ gb289) (.slice Ao13 x279000_1.length co13) x279000_1) := ⟨by (with_reducible repeat (first | apply Kd.V_alloc | apply Kd.V_drewN | apply Kd.V_drew)); exact Kd.V_mono (Kd.V_far (p := ⟨gb278, 0, none⟩) (Kd.V_far (p := ⟨gb289, 4, none⟩) (Kd.V_far (p := ⟨gb289, 3, none⟩) (Kd.V_far (p := ⟨gb289, 2, none⟩) (Kd.V_far (p := ⟨gb289, 1, none⟩) (Kd.V_far (p := ⟨gb289, 0, none⟩) (Kd.V_far (p := ⟨gb288, 0, none⟩) (Kd.V_mono (Kd.V_mono (Kd.V_mono HO_279000.out (fun k_ hk => (⟨hk, hk.2.2.1⟩ : _ ∧ k_ ≠ gb288))) (fun k_ hk => (⟨hk, hk.1.2.2.2⟩ : _ ∧ k_ ≠ gb289))) (fun k_ hk => (⟨hk, hk.1.1.2.1⟩ : _ ∧ k_ ≠ gb278))) (fun _ hk => hk.1.1.2) (.slice Ao19 t280.length co19)) (fun _ hk => hk.1.2) (.int .i64 t283)) (fun _ hk => hk.1.2) (.string t284)) (fun _ hk => hk.1.2) (.int .u64 t285)) (fun _ hk => hk.1.2) (.bool t286)) (fun _ hk => hk.1.2) (.bool t287)) (fun _ hk => hk.2) (.slice Ao19 t280.length co19)) (fun _ hk => ⟨hk.1.1.1.1, ⟨hk.1.1.1.2.1, ⟨hk.1.1.1.2.2.1, hk.1.1.1.2.2.2⟩⟩⟩)⟩
              have n1_ : Aside0 (Kd.V k42 42 (((((((w18.setCell ⟨gb288, 0, none⟩ (.slice Ao19 t280.length co19)).setCell ⟨gb289, 0, none⟩ (.int .i64 t283)).setCell ⟨gb289, 1, none⟩ (.string t284)).setCell ⟨gb289, 2, none⟩ (.int .u64 t285)).setCell ⟨gb289, 3, none⟩ (.bool t286)).setCell ⟨gb289, 4, none⟩ (.bool t287)).setCell ⟨gb278, 0, none⟩ (.slice Ao19 t280.length co19)) w.heap.size (fun k_ => k_ ≠ gb276 ∧ k_ ≠ gb278 ∧ k_ ≠ gb288 ∧ k_ ≠ gb289) (.slice Ao19 t280.length co19) t280) := ⟨by (with_reducible repeat (first | apply Kd.V_alloc | apply Kd.V_drewN | apply Kd.V_drew)); exact Kd.V_mono (Kd.V_far (p := ⟨gb278, 0, none⟩) (Kd.V_far (p := ⟨gb289, 4, none⟩) (Kd.V_far (p := ⟨gb289, 3, none⟩) (Kd.V_far (p := ⟨gb289, 2, none⟩) (Kd.V_far (p := ⟨gb289, 1, none⟩) (Kd.V_far (p := ⟨gb289, 0, none⟩) (Kd.V_far (p := ⟨gb288, 0, none⟩) (Kd.V_mono (Kd.V_mono (Kd.V_mono HO282.out (fun k_ hk => (⟨hk, hk.2.2.1⟩ : _ ∧ k_ ≠ gb288))) (fun k_ hk => (⟨hk, hk.1.2.2.2⟩ : _ ∧ k_ ≠ gb289))) (fun k_ hk => (⟨hk, hk.1.1.2.1⟩ : _ ∧ k_ ≠ gb278))) (fun _ hk => hk.1.1.2) (.slice Ao19 t280.length co19)) (fun _ hk => hk.1.2) (.int .i64 t283)) (fun _ hk => hk.1.2) (.string t284)) (fun _ hk => hk.1.2) (.int .u64 t285)) (fun _ hk => hk.1.2) (.bool t286)) (fun _ hk => hk.1.2) (.bool t287)) (fun _ hk => hk.2) (.slice Ao19 t280.length co19)) (fun _ hk => ⟨hk.1.1.1.1, ⟨hk.1.1.1.2.1, ⟨hk.1.1.1.2.2.1, hk.1.1.1.2.2.2⟩⟩⟩)⟩
              have n2_ : Aside0 ((((((((w18.setCell ⟨gb288, 0, none⟩ (.slice Ao19 t280.length co19)).setCell ⟨gb289, 0, none⟩ (.int .i64 t283)).setCell ⟨gb289, 1, none⟩ (.string t284)).setCell ⟨gb289, 2, none⟩ (.int .u64 t285)).setCell ⟨gb289, 3, none⟩ (.bool t286)).setCell ⟨gb289, 4, none⟩ (.bool t287)).setCell ⟨gb278, 0, none⟩ (.slice Ao19 t280.length co19)).heap[gb276]? = some (.cells #[.int .u64 a1_0, .int .u64 a1_1] 34 (0, 0))) := ⟨by (with_reducible repeat (first | refine blk_drewN ?_ _ | refine blk_drew ?_ | refine blk_alloc ?_ _)); refine blk_far ?_ NB276_278.out _; (with_reducible repeat (first | refine blk_drewN ?_ _ | refine blk_drew ?_ | refine blk_alloc ?_ _)); refine blk_far ?_ NB276_289.out _; (with_reducible repeat (first | refine blk_drewN ?_ _ | refine blk_drew ?_ | refine blk_alloc ?_ _)); refine blk_far ?_ NB276_289.out _; (with_reducible repeat (first | refine blk_drewN ?_ _ | refine blk_drew ?_ | refine blk_alloc ?_ _)); refine blk_far ?_ NB276_289.out _; (with_reducible repeat (first | refine blk_drewN ?_ _ | refine blk_drew ?_ | refine blk_alloc ?_ _)); refine blk_far ?_ NB276_289.out _; (with_reducible repeat (first | refine blk_drewN ?_ _ | refine blk_drew ?_ | refine blk_alloc ?_ _)); refine blk_far ?_ NB276_289.out _; (with_reducible repeat (first | refine blk_drewN ?_ _ | refine blk_drew ?_ | refine blk_alloc ?_ _)); refine blk_far ?_ NB276_288.out _; (with_reducible repeat (first | refine blk_drewN ?_ _ | refine blk_drew ?_ | refine blk_alloc ?_ _)); exact BK276.out⟩
              have n3_ : Aside0 ((((((((w18.setCell ⟨gb288, 0, none⟩ (.slice Ao19 t280.length co19)).setCell ⟨gb289, 0, none⟩ (.int .i64 t283)).setCell ⟨gb289, 1, none⟩ (.string t284)).setCell ⟨gb289, 2, none⟩ (.int .u64 t285)).setCell ⟨gb289, 3, none⟩ (.bool t286)).setCell ⟨gb289, 4, none⟩ (.bool t287)).setCell ⟨gb278, 0, none⟩ (.slice Ao19 t280.length co19)).heap[gb278]? = some (.cells #[.slice Ao19 t280.length co19] 26 (0, 0))) := ⟨by (with_reducible repeat (first | refine blk_drewN ?_ _ | refine blk_drew ?_ | refine blk_alloc ?_ _)); refine blk_put (cs := #[.slice Ao13 x279000_1.length co13]) ?_ 0 _ rfl; (with_reducible repeat (first | refine blk_drewN ?_ _ | refine blk_drew ?_ | refine blk_alloc ?_ _)); refine blk_far ?_ NB278_289.out _; (with_reducible repeat (first | refine blk_drewN ?_ _ | refine blk_drew ?_ | refine blk_alloc ?_ _)); refine blk_far ?_ NB278_289.out _; (with_reducible repeat (first | refine blk_drewN ?_ _ | refine blk_drew ?_ | refine blk_alloc ?_ _)); refine blk_far ?_ NB278_289.out _; (with_reducible repeat (first | refine blk_drewN ?_ _ | refine blk_drew ?_ | refine blk_alloc ?_ _)); refine blk_far ?_ NB278_289.out _; (with_reducible repeat (first | refine blk_drewN ?_ _ | refine blk_drew ?_ | refine blk_alloc ?_ _)); refine blk_far ?_ NB278_289.out _; (with_reducible repeat (first | refine blk_drewN ?_ _ | refine blk_drew ?_ | refine blk_alloc ?_ _)); refine blk_far ?_ NB278_288.out _; (with_reducible repeat (first | refine blk_drewN ?_ _ | refine blk_drew ?_ | refine blk_alloc ?_ _)); exact BK278.out⟩
              have n4_ : Aside0 ((((((((w18.setCell ⟨gb288, 0, none⟩ (.slice Ao19 t280.length co19)).setCell ⟨gb289, 0, none⟩ (.int .i64 t283)).setCell ⟨gb289, 1, none⟩ (.string t284)).setCell ⟨gb289, 2, none⟩ (.int .u64 t285)).setCell ⟨gb289, 3, none⟩ (.bool t286)).setCell ⟨gb289, 4, none⟩ (.bool t287)).setCell ⟨gb278, 0, none⟩ (.slice Ao19 t280.length co19)).heap[gb288]? = some (.cells #[.slice Ao19 t280.length co19] 26 (0, 0))) := ⟨by (with_reducible repeat (first | refine blk_drewN ?_ _ | refine blk_drew ?_ | refine blk_alloc ?_ _)); refine blk_far ?_ NB288_278.out _; (with_reducible repeat (first | refine blk_drewN ?_ _ | refine blk_drew ?_ | refine blk_alloc ?_ _)); refine blk_far ?_ NB288_289.out _; (with_reducible repeat (first | refine blk_drewN ?_ _ | refine blk_drew ?_ | refine blk_alloc ?_ _)); refine blk_far ?_ NB288_289.out _; (with_reducible repeat (first | refine blk_drewN ?_ _ | refine blk_drew ?_ | refine blk_alloc ?_ _)); refine blk_far ?_ NB288_289.out _; (with_reducible repeat (first | refine blk_drewN ?_ _ | refine blk_drew ?_ | refine blk_alloc ?_ _)); refine blk_far ?_ NB288_289.out _; (with_reducible repeat (first | refine blk_drewN ?_ _ | refine blk_drew ?_ | refine blk_alloc ?_ _)); refine blk_far ?_ NB288_289.out _; (with_reducible repeat (first | refine blk_drewN ?_ _ | refine blk_drew ?_ | refine blk_alloc ?_ _)); refine blk_put (cs := #[.slice none 0 0]) ?_ 0 _ rfl; (with_reducible repeat (first | refine blk_drewN ?_ _ | refine blk_drew ?_ | refine blk_alloc ?_ _)); exact BK288.out⟩
              have n5_ : Aside0 ((((((((w18.setCell ⟨gb288, 0, none⟩ (.slice Ao19 t280.length co19)).setCell ⟨gb289, 0, none⟩ (.int .i64 t283)).setCell ⟨gb289, 1, none⟩ (.string t284)).setCell ⟨gb289, 2, none⟩ (.int .u64 t285)).setCell ⟨gb289, 3, none⟩ (.bool t286)).setCell ⟨gb289, 4, none⟩ (.bool t287)).setCell ⟨gb278, 0, none⟩ (.slice Ao19 t280.length co19)).heap[gb289]? = some (.cells #[.int .i64 t283, .string t284, .int .u64 t285, .bool t286, .bool t287] 30 (0, 0))) := ⟨by (with_reducible repeat (first | refine blk_drewN ?_ _ | refine blk_drew ?_ | refine blk_alloc ?_ _)); refine blk_far ?_ NB289_278.out _; (with_reducible repeat (first | refine blk_drewN ?_ _ | refine blk_drew ?_ | refine blk_alloc ?_ _)); refine blk_put (cs := #[.int .i64 t283, .string t284, .int .u64 t285, .bool t286, .bool false]) ?_ 4 _ rfl; (with_reducible repeat (first | refine blk_drewN ?_ _ | refine blk_drew ?_ | refine blk_alloc ?_ _)); refine blk_put (cs := #[.int .i64 t283, .string t284, .int .u64 t285, .bool false, .bool false]) ?_ 3 _ rfl; (with_reducible repeat (first | refine blk_drewN ?_ _ | refine blk_drew ?_ | refine blk_alloc ?_ _)); refine blk_put (cs := #[.int .i64 t283, .string t284, .int .u64 0, .bool false, .bool false]) ?_ 2 _ rfl; (with_reducible repeat (first | refine blk_drewN ?_ _ | refine blk_drew ?_ | refine blk_alloc ?_ _)); refine blk_put (cs := #[.int .i64 t283, .string (⟨#[]⟩ : ByteArray), .int .u64 0, .bool false, .bool false]) ?_ 1 _ rfl; (with_reducible repeat (first | refine blk_drewN ?_ _ | refine blk_drew ?_ | refine blk_alloc ?_ _)); refine blk_put (cs := #[.int .i64 0, .string (⟨#[]⟩ : ByteArray), .int .u64 0, .bool false, .bool false]) ?_ 0 _ rfl; (with_reducible repeat (first | refine blk_drewN ?_ _ | refine blk_drew ?_ | refine blk_alloc ?_ _)); refine blk_far ?_ NB289_288.out _; (with_reducible repeat (first | refine blk_drewN ?_ _ | refine blk_drew ?_ | refine blk_alloc ?_ _)); exact BK289.out⟩
              have n6_ : Aside0 (Below w.heap.size w (((((((w18.setCell ⟨gb288, 0, none⟩ (.slice Ao19 t280.length co19)).setCell ⟨gb289, 0, none⟩ (.int .i64 t283)).setCell ⟨gb289, 1, none⟩ (.string t284)).setCell ⟨gb289, 2, none⟩ (.int .u64 t285)).setCell ⟨gb289, 3, none⟩ (.bool t286)).setCell ⟨gb289, 4, none⟩ (.bool t287)).setCell ⟨gb278, 0, none⟩ (.slice Ao19 t280.length co19))) := ⟨hx_ HB⟩
              (try clear HO_279000)
              (try clear HO282)
              (try clear BK276)
              (try clear BK278)
              (try clear BK288)
              (try clear BK289)
              (try clear HB)
              generalize (((((((w18.setCell ⟨gb288, 0, none⟩ (.slice Ao19 t280.length co19)).setCell ⟨gb289, 0, none⟩ (.int .i64 t283)).setCell ⟨gb289, 1, none⟩ (.string t284)).setCell ⟨gb289, 2, none⟩ (.int .u64 t285)).setCell ⟨gb289, 3, none⟩ (.bool t286)).setCell ⟨gb289, 4, none⟩ (.bool t287)).setCell ⟨gb278, 0, none⟩ (.slice Ao19 t280.length co19)) = w34 at n0_ n1_ n2_ n3_ n4_ n5_ n6_ ⊢
              have HO_279000 := n0_
              have HO282 := n1_
              have BK276 := n2_
              have BK278 := n3_
              have BK288 := n4_
              have BK289 := n5_
              have HB := n6_
              clear n0_ n1_ n2_ n3_ n4_ n5_ n6_
              have n0_ := am_ (Kd.V_drew HO_279000.out)
              have n1_ := am_ (Kd.V_drew HO282.out)
              have n2_ := am_ (blk_drew BK276.out)
              have n3_ := am_ (blk_drew BK278.out)
              have n4_ := am_ (blk_drew BK288.out)
              have n5_ := am_ (blk_drew BK289.out)
              have n6_ := am_ (below_drew1 HB.out)
              clear HO_279000
              clear HO282
              clear BK276
              clear BK278
              clear BK288
              clear BK289
              clear HB
              have HO_279000 := n0_
              have HO282 := n1_
              have BK276 := n2_
              have BK278 := n3_
              have BK288 := n4_
              have BK289 := n5_
              have HB := n6_
              clear n0_ n1_ n2_ n3_ n4_ n5_ n6_
              have p290 : 0 ≤ (x9_1 : Int) := of_decide_eq_true (by first | (with_reducible assumption) | assumption)
              have q290 : x9_1 < (l0.length : Int) := of_decide_eq_true (by first | (with_reducible assumption) | assumption)
              obtain ⟨ad290, A290_4, c290_4, A290_6, c290_6, e290, hx290_0, hx290_1, hx290_2, hx290_3, hx290_4, hx290_5, hx290_6, hl290_4, hi290_4, hl290_6, hi290_6⟩ := at_T38 HR0.out x9_1 p290 q290
              have hw290_6 := hx290_6
              have hw290_5 := hx290_5
              have hw290_4 := hx290_4
              have hw290_3 := hx290_3
              have hw290_2 := hx290_2
              have hw290_1 := hx290_1
              have hw290_0 := hx290_0
              obtain rfl : ad279 = ad290 := (by injection e290)
              replace hx290_0 := (HB.out.cell (World.block_lt_of_cell? w _ hx290_0)).trans hx290_0
              replace hx290_1 := (HB.out.cell (World.block_lt_of_cell? w _ hx290_1)).trans hx290_1
              replace hx290_2 := (HB.out.cell (World.block_lt_of_cell? w _ hx290_2)).trans hx290_2
              replace hx290_3 := (HB.out.cell (World.block_lt_of_cell? w _ hx290_3)).trans hx290_3
              replace hx290_4 := (HB.out.cell (World.block_lt_of_cell? w _ hx290_4)).trans hx290_4
              replace hx290_5 := (HB.out.cell (World.block_lt_of_cell? w _ hx290_5)).trans hx290_5
              replace hx290_6 := (HB.out.cell (World.block_lt_of_cell? w _ hx290_6)).trans hx290_6
              have HR290_4 := am_ hi290_4
              have HC290_4 := am_ hl290_4
              clear hi290_4 hl290_4
              have HR290_6 := am_ hi290_6
              have HC290_6 := am_ hl290_6
              clear hi290_6 hl290_6
              replace p290 := eq_true p290
              replace q290 := eq_true q290
              refine start_ (n := 12) (S := fun w' => w'.cell? ⟨gb276, 0, none⟩ = some (.int .u64 a1_0) ∧ w'.cell? ⟨gb276, 1, none⟩ = some (.int .u64 a1_1) ∧ w'.cell? (ad279.add ((x9_1).toNat * 7)) = some (.int .i64 ((rd_T38 l0 x9_1).f0)) ∧ w'.cell? ⟨(ad279.add ((x9_1).toNat * 7)).block, (ad279.add ((x9_1).toNat * 7)).off + 1, none⟩ = some (.int .u64 ((rd_T38 l0 x9_1).f1.f0)) ∧ w'.cell? ⟨(ad279.add ((x9_1).toNat * 7)).block, (ad279.add ((x9_1).toNat * 7)).off + 2, none⟩ = some (.int .u64 ((rd_T38 l0 x9_1).f1.f1)) ∧ w'.cell? ⟨(ad279.add ((x9_1).toNat * 7)).block, (ad279.add ((x9_1).toNat * 7)).off + 3, none⟩ = some (.string ((rd_T38 l0 x9_1).f2)) ∧ w'.cell? ⟨(ad279.add ((x9_1).toNat * 7)).block, (ad279.add ((x9_1).toNat * 7)).off + 4, none⟩ = some (.slice A290_4 ((rd_T38 l0 x9_1).f3).length c290_4) ∧ w'.cell? ⟨(ad279.add ((x9_1).toNat * 7)).block, (ad279.add ((x9_1).toNat * 7)).off + 5, none⟩ = some (.bool ((rd_T38 l0 x9_1).f4)) ∧ w'.cell? ⟨(ad279.add ((x9_1).toNat * 7)).block, (ad279.add ((x9_1).toNat * 7)).off + 6, none⟩ = some (.slice A290_6 ((rd_T38 l0 x9_1).f5).length c290_6)) (ds := []) bN27_ (by kernel_rfl) rfl rfl ⟨(blk_cell BK276.out 0).trans rfl, (blk_cell BK276.out 1).trans rfl, ((HB.out.cell (World.block_lt_of_cell? w _ hw290_0)).trans hw290_0), ((HB.out.cell (World.block_lt_of_cell? w _ hw290_1)).trans hw290_1), ((HB.out.cell (World.block_lt_of_cell? w _ hw290_2)).trans hw290_2), ((HB.out.cell (World.block_lt_of_cell? w _ hw290_3)).trans hw290_3), ((HB.out.cell (World.block_lt_of_cell? w _ hw290_4)).trans hw290_4), ((HB.out.cell (World.block_lt_of_cell? w _ hw290_5)).trans hw290_5), ((HB.out.cell (World.block_lt_of_cell? w _ hw290_6)).trans hw290_6)⟩ (fun hHeld => ?_); refine with_tabW ferrulelaw14_CoordCommits.tab10 ferrulelaw14_CoordCommits.bits10 (fun HT_ HW_ => ?_)
              generalize w34.drew = w35 at HO_279000 HO282 BK276 BK278 BK288 BK289 HB HR290_4 HR290_6 hx290_0 hx290_1 hx290_2 hx290_3 hx290_4 hx290_5 hx290_6 hHeld ⊢
              refine pure_ (i := 0) (N := some 30) (v := ?_) (a' := ?_) bN28_ rfl rfl (any_of HT_.out (by kernel_rfl)) (fun _ _ _ h => h) (Or.inl ⟨by rfl, ?_⟩) ?_ ?_
              rotate_left
              · intro w'
                go_simp
                with_reducible rfl
              rotate_left
              · simp only [Act.put, List.setIfInBounds_toArray, List.set_cons_zero, List.set_cons_succ, i64_w, i32_w]
                rfl
              refine pure_ (i := 1) (N := some 31) (v := ?_) (a' := ?_) bN29_ rfl rfl (any_of HT_.out (by kernel_rfl)) (fun _ _ _ h => h) (Or.inl ⟨by rfl, ?_⟩) ?_ ?_
              rotate_left
              · intro w'
                go_simp
                with_reducible rfl
              rotate_left
              · simp only [Act.put, List.setIfInBounds_toArray, List.set_cons_zero, List.set_cons_succ, i64_w, i32_w]
                rfl
              refine pure_ (i := 2) (N := some 32) (v := ?_) (a' := ?_) bN30_ rfl rfl (any_of HT_.out (by kernel_rfl)) (fun _ _ _ h => h) (Or.inl ⟨by rfl, ?_⟩) ?_ ?_
              rotate_left
              · intro w'
                go_simp
                with_reducible rfl
              rotate_left
              · simp only [Act.put, List.setIfInBounds_toArray, List.set_cons_zero, List.set_cons_succ, i64_w, i32_w]
                rfl
              refine pure_ (i := 3) (N := some 33) (v := ?_) (a' := ?_) bN31_ rfl rfl (any_of HT_.out (by kernel_rfl)) (fun _ _ _ h => h) (Or.inl ⟨by rfl, ?_⟩) ?_ ?_
              rotate_left
              · intro w'
                go_simp
                with_reducible rfl
              rotate_left
              · simp only [Act.put, List.setIfInBounds_toArray, List.set_cons_zero, List.set_cons_succ, i64_w, i32_w]
                rfl
              refine take_ (i := 4) (N := some 34) (v := ?_) (a' := ?_) bN32_ rfl rfl (take_ofW HT_.out HW_.out (by kernel_rfl)) (fun _ _ _ h => h) (Or.inl ⟨by rfl, ?_⟩) hHeld ?_ ?_
              rotate_left
              · rintro w' ⟨s0, s1, s2, s3, s4, s5, s6, s7, s8⟩
                go_simp
                with_reducible rfl
              rotate_left
              · simp only [Act.put, List.setIfInBounds_toArray, List.set_cons_zero, List.set_cons_succ, i64_w, i32_w]
                rfl
              refine take_ (i := 5) (N := some 35) (v := ?_) (a' := ?_) bN33_ rfl rfl (take_ofW HT_.out HW_.out (by kernel_rfl)) (fun _ _ _ h => h) (Or.inl ⟨by rfl, ?_⟩) hHeld ?_ ?_
              rotate_left
              · rintro w' ⟨s0, s1, s2, s3, s4, s5, s6, s7, s8⟩
                go_simp
                with_reducible rfl
              rotate_left
              · simp only [Act.put, List.setIfInBounds_toArray, List.set_cons_zero, List.set_cons_succ, i64_w, i32_w]
                rfl
              refine pure_ (i := 6) (N := some 36) (v := ?_) (a' := ?_) bN34_ rfl rfl (any_of HT_.out (by kernel_rfl)) (fun _ _ _ h => h) (Or.inl ⟨by rfl, ?_⟩) ?_ ?_
              rotate_left
              · intro w'
                go_simp
                with_reducible rfl
              rotate_left
              · simp only [Act.put, List.setIfInBounds_toArray, List.set_cons_zero, List.set_cons_succ, i64_w, i32_w]
                rfl
              refine pure_ (i := 7) (N := some 37) (v := ?_) (a' := ?_) bN35_ rfl rfl (any_of HT_.out (by kernel_rfl)) (fun _ _ _ h => h) (Or.inl ⟨by rfl, ?_⟩) ?_ ?_
              rotate_left
              · intro w'
                go_simp
                with_reducible rfl
              rotate_left
              · simp only [Act.put, List.setIfInBounds_toArray, List.set_cons_zero, List.set_cons_succ, i64_w, i32_w]
                rfl
              refine pure_ (i := 8) (N := some 38) (v := undef) (a' := ?_) bN36_ rfl rfl (any_of HT_.out (by kernel_rfl)) (fun _ _ _ h => h) (Or.inr ⟨by rfl, rfl⟩) ?_ ?_
              rotate_left
              · simp only [Act.put, List.setIfInBounds_toArray, List.set_cons_zero, List.set_cons_succ, i64_w, i32_w]
                rfl
              refine pure_ (i := 9) (N := some 39) (v := undef) (a' := ?_) bN37_ rfl rfl (any_of HT_.out (by kernel_rfl)) (fun _ _ _ h => h) (Or.inr ⟨by rfl, rfl⟩) ?_ ?_
              rotate_left
              · simp only [Act.put, List.setIfInBounds_toArray, List.set_cons_zero, List.set_cons_succ, i64_w, i32_w]
                rfl
              refine pure_ (i := 10) (N := some 40) (v := undef) (a' := ?_) bN38_ rfl rfl (any_of HT_.out (by kernel_rfl)) (fun _ _ _ h => h) (Or.inr ⟨by rfl, rfl⟩) ?_ ?_
              rotate_left
              · simp only [Act.put, List.setIfInBounds_toArray, List.set_cons_zero, List.set_cons_succ, i64_w, i32_w]
                rfl
              refine pure_ (i := 11) (N := some 41) (v := ?_) (a' := ?_) bN39_ rfl rfl (any_of HT_.out (by kernel_rfl)) (fun _ _ _ h => h) (Or.inl ⟨by rfl, ?_⟩) ?_ ?_
              rotate_left
              · intro w'
                go_simp
                with_reducible rfl
              rotate_left
              · simp only [Act.put, List.setIfInBounds_toArray, List.set_cons_zero, List.set_cons_succ, i64_w, i32_w]
                rfl
              refine done_ (done_of HT_.out (by kernel_rfl)) ?_
              try go_wp2
              go_meet
              case rel => exact ⟨_, (true), (by first | rfl | (simp; done) | (simp [*]; done)), H', ⟨by have := HK1.out; first | omega | exact Nat.le_refl _⟩, ⟨vx_ HO282⟩, ⟨vx_ HO282⟩, ⟨bx_ BK276⟩, ⟨bx_ BK278⟩, ⟨bx_ BK288⟩, ⟨bx_ BK289⟩, ⟨hx_ HB⟩⟩
            · rw [if_neg c33] at H
              have c33b0 : (!(((rd_T38 l0 x9_1).f1.f0) == a1_0) || (!(((rd_T38 l0 x9_1).f1.f1) == a1_1))) = false := by simpa using c33
              clear c33
              (first | rw [c33b0] | (simp only [i64_w, i32_w]; rw [c33b0]) | skip)
              have H' := am_ H
              clear H
              try go_wp2
              have n0_ : Aside0 (Kd.V k42 42 (((((((w18.setCell ⟨gb288, 0, none⟩ (.slice Ao19 t280.length co19)).setCell ⟨gb289, 0, none⟩ (.int .i64 t283)).setCell ⟨gb289, 1, none⟩ (.string t284)).setCell ⟨gb289, 2, none⟩ (.int .u64 t285)).setCell ⟨gb289, 3, none⟩ (.bool t286)).setCell ⟨gb289, 4, none⟩ (.bool t287)).setCell ⟨gb278, 0, none⟩ (.slice Ao19 t280.length co19)) w.heap.size (fun k_ => k_ ≠ gb276 ∧ k_ ≠ gb278 ∧ k_ ≠ gb288 ∧ k_ ≠ gb289) (.slice Ao13 x279000_1.length co13) x279000_1) := ⟨by (with_reducible repeat (first | apply Kd.V_alloc | apply Kd.V_drewN | apply Kd.V_drew)); exact Kd.V_mono (Kd.V_far (p := ⟨gb278, 0, none⟩) (Kd.V_far (p := ⟨gb289, 4, none⟩) (Kd.V_far (p := ⟨gb289, 3, none⟩) (Kd.V_far (p := ⟨gb289, 2, none⟩) (Kd.V_far (p := ⟨gb289, 1, none⟩) (Kd.V_far (p := ⟨gb289, 0, none⟩) (Kd.V_far (p := ⟨gb288, 0, none⟩) (Kd.V_mono (Kd.V_mono (Kd.V_mono HO_279000.out (fun k_ hk => (⟨hk, hk.2.2.1⟩ : _ ∧ k_ ≠ gb288))) (fun k_ hk => (⟨hk, hk.1.2.2.2⟩ : _ ∧ k_ ≠ gb289))) (fun k_ hk => (⟨hk, hk.1.1.2.1⟩ : _ ∧ k_ ≠ gb278))) (fun _ hk => hk.1.1.2) (.slice Ao19 t280.length co19)) (fun _ hk => hk.1.2) (.int .i64 t283)) (fun _ hk => hk.1.2) (.string t284)) (fun _ hk => hk.1.2) (.int .u64 t285)) (fun _ hk => hk.1.2) (.bool t286)) (fun _ hk => hk.1.2) (.bool t287)) (fun _ hk => hk.2) (.slice Ao19 t280.length co19)) (fun _ hk => ⟨hk.1.1.1.1, ⟨hk.1.1.1.2.1, ⟨hk.1.1.1.2.2.1, hk.1.1.1.2.2.2⟩⟩⟩)⟩
              have n1_ : Aside0 (Kd.V k42 42 (((((((w18.setCell ⟨gb288, 0, none⟩ (.slice Ao19 t280.length co19)).setCell ⟨gb289, 0, none⟩ (.int .i64 t283)).setCell ⟨gb289, 1, none⟩ (.string t284)).setCell ⟨gb289, 2, none⟩ (.int .u64 t285)).setCell ⟨gb289, 3, none⟩ (.bool t286)).setCell ⟨gb289, 4, none⟩ (.bool t287)).setCell ⟨gb278, 0, none⟩ (.slice Ao19 t280.length co19)) w.heap.size (fun k_ => k_ ≠ gb276 ∧ k_ ≠ gb278 ∧ k_ ≠ gb288 ∧ k_ ≠ gb289) (.slice Ao19 t280.length co19) t280) := ⟨by (with_reducible repeat (first | apply Kd.V_alloc | apply Kd.V_drewN | apply Kd.V_drew)); exact Kd.V_mono (Kd.V_far (p := ⟨gb278, 0, none⟩) (Kd.V_far (p := ⟨gb289, 4, none⟩) (Kd.V_far (p := ⟨gb289, 3, none⟩) (Kd.V_far (p := ⟨gb289, 2, none⟩) (Kd.V_far (p := ⟨gb289, 1, none⟩) (Kd.V_far (p := ⟨gb289, 0, none⟩) (Kd.V_far (p := ⟨gb288, 0, none⟩) (Kd.V_mono (Kd.V_mono (Kd.V_mono HO282.out (fun k_ hk => (⟨hk, hk.2.2.1⟩ : _ ∧ k_ ≠ gb288))) (fun k_ hk => (⟨hk, hk.1.2.2.2⟩ : _ ∧ k_ ≠ gb289))) (fun k_ hk => (⟨hk, hk.1.1.2.1⟩ : _ ∧ k_ ≠ gb278))) (fun _ hk => hk.1.1.2) (.slice Ao19 t280.length co19)) (fun _ hk => hk.1.2) (.int .i64 t283)) (fun _ hk => hk.1.2) (.string t284)) (fun _ hk => hk.1.2) (.int .u64 t285)) (fun _ hk => hk.1.2) (.bool t286)) (fun _ hk => hk.1.2) (.bool t287)) (fun _ hk => hk.2) (.slice Ao19 t280.length co19)) (fun _ hk => ⟨hk.1.1.1.1, ⟨hk.1.1.1.2.1, ⟨hk.1.1.1.2.2.1, hk.1.1.1.2.2.2⟩⟩⟩)⟩
              have n2_ : Aside0 ((((((((w18.setCell ⟨gb288, 0, none⟩ (.slice Ao19 t280.length co19)).setCell ⟨gb289, 0, none⟩ (.int .i64 t283)).setCell ⟨gb289, 1, none⟩ (.string t284)).setCell ⟨gb289, 2, none⟩ (.int .u64 t285)).setCell ⟨gb289, 3, none⟩ (.bool t286)).setCell ⟨gb289, 4, none⟩ (.bool t287)).setCell ⟨gb278, 0, none⟩ (.slice Ao19 t280.length co19)).heap[gb276]? = some (.cells #[.int .u64 a1_0, .int .u64 a1_1] 34 (0, 0))) := ⟨by (with_reducible repeat (first | refine blk_drewN ?_ _ | refine blk_drew ?_ | refine blk_alloc ?_ _)); refine blk_far ?_ NB276_278.out _; (with_reducible repeat (first | refine blk_drewN ?_ _ | refine blk_drew ?_ | refine blk_alloc ?_ _)); refine blk_far ?_ NB276_289.out _; (with_reducible repeat (first | refine blk_drewN ?_ _ | refine blk_drew ?_ | refine blk_alloc ?_ _)); refine blk_far ?_ NB276_289.out _; (with_reducible repeat (first | refine blk_drewN ?_ _ | refine blk_drew ?_ | refine blk_alloc ?_ _)); refine blk_far ?_ NB276_289.out _; (with_reducible repeat (first | refine blk_drewN ?_ _ | refine blk_drew ?_ | refine blk_alloc ?_ _)); refine blk_far ?_ NB276_289.out _; (with_reducible repeat (first | refine blk_drewN ?_ _ | refine blk_drew ?_ | refine blk_alloc ?_ _)); refine blk_far ?_ NB276_289.out _; (with_reducible repeat (first | refine blk_drewN ?_ _ | refine blk_drew ?_ | refine blk_alloc ?_ _)); refine blk_far ?_ NB276_288.out _; (with_reducible repeat (first | refine blk_drewN ?_ _ | refine blk_drew ?_ | refine blk_alloc ?_ _)); exact BK276.out⟩
              have n3_ : Aside0 ((((((((w18.setCell ⟨gb288, 0, none⟩ (.slice Ao19 t280.length co19)).setCell ⟨gb289, 0, none⟩ (.int .i64 t283)).setCell ⟨gb289, 1, none⟩ (.string t284)).setCell ⟨gb289, 2, none⟩ (.int .u64 t285)).setCell ⟨gb289, 3, none⟩ (.bool t286)).setCell ⟨gb289, 4, none⟩ (.bool t287)).setCell ⟨gb278, 0, none⟩ (.slice Ao19 t280.length co19)).heap[gb278]? = some (.cells #[.slice Ao19 t280.length co19] 26 (0, 0))) := ⟨by (with_reducible repeat (first | refine blk_drewN ?_ _ | refine blk_drew ?_ | refine blk_alloc ?_ _)); refine blk_put (cs := #[.slice Ao13 x279000_1.length co13]) ?_ 0 _ rfl; (with_reducible repeat (first | refine blk_drewN ?_ _ | refine blk_drew ?_ | refine blk_alloc ?_ _)); refine blk_far ?_ NB278_289.out _; (with_reducible repeat (first | refine blk_drewN ?_ _ | refine blk_drew ?_ | refine blk_alloc ?_ _)); refine blk_far ?_ NB278_289.out _; (with_reducible repeat (first | refine blk_drewN ?_ _ | refine blk_drew ?_ | refine blk_alloc ?_ _)); refine blk_far ?_ NB278_289.out _; (with_reducible repeat (first | refine blk_drewN ?_ _ | refine blk_drew ?_ | refine blk_alloc ?_ _)); refine blk_far ?_ NB278_289.out _; (with_reducible repeat (first | refine blk_drewN ?_ _ | refine blk_drew ?_ | refine blk_alloc ?_ _)); refine blk_far ?_ NB278_289.out _; (with_reducible repeat (first | refine blk_drewN ?_ _ | refine blk_drew ?_ | refine blk_alloc ?_ _)); refine blk_far ?_ NB278_288.out _; (with_reducible repeat (first | refine blk_drewN ?_ _ | refine blk_drew ?_ | refine blk_alloc ?_ _)); exact BK278.out⟩
              have n4_ : Aside0 ((((((((w18.setCell ⟨gb288, 0, none⟩ (.slice Ao19 t280.length co19)).setCell ⟨gb289, 0, none⟩ (.int .i64 t283)).setCell ⟨gb289, 1, none⟩ (.string t284)).setCell ⟨gb289, 2, none⟩ (.int .u64 t285)).setCell ⟨gb289, 3, none⟩ (.bool t286)).setCell ⟨gb289, 4, none⟩ (.bool t287)).setCell ⟨gb278, 0, none⟩ (.slice Ao19 t280.length co19)).heap[gb288]? = some (.cells #[.slice Ao19 t280.length co19] 26 (0, 0))) := ⟨by (with_reducible repeat (first | refine blk_drewN ?_ _ | refine blk_drew ?_ | refine blk_alloc ?_ _)); refine blk_far ?_ NB288_278.out _; (with_reducible repeat (first | refine blk_drewN ?_ _ | refine blk_drew ?_ | refine blk_alloc ?_ _)); refine blk_far ?_ NB288_289.out _; (with_reducible repeat (first | refine blk_drewN ?_ _ | refine blk_drew ?_ | refine blk_alloc ?_ _)); refine blk_far ?_ NB288_289.out _; (with_reducible repeat (first | refine blk_drewN ?_ _ | refine blk_drew ?_ | refine blk_alloc ?_ _)); refine blk_far ?_ NB288_289.out _; (with_reducible repeat (first | refine blk_drewN ?_ _ | refine blk_drew ?_ | refine blk_alloc ?_ _)); refine blk_far ?_ NB288_289.out _; (with_reducible repeat (first | refine blk_drewN ?_ _ | refine blk_drew ?_ | refine blk_alloc ?_ _)); refine blk_far ?_ NB288_289.out _; (with_reducible repeat (first | refine blk_drewN ?_ _ | refine blk_drew ?_ | refine blk_alloc ?_ _)); refine blk_put (cs := #[.slice none 0 0]) ?_ 0 _ rfl; (with_reducible repeat (first | refine blk_drewN ?_ _ | refine blk_drew ?_ | refine blk_alloc ?_ _)); exact BK288.out⟩
              have n5_ : Aside0 ((((((((w18.setCell ⟨gb288, 0, none⟩ (.slice Ao19 t280.length co19)).setCell ⟨gb289, 0, none⟩ (.int .i64 t283)).setCell ⟨gb289, 1, none⟩ (.string t284)).setCell ⟨gb289, 2, none⟩ (.int .u64 t285)).setCell ⟨gb289, 3, none⟩ (.bool t286)).setCell ⟨gb289, 4, none⟩ (.bool t287)).setCell ⟨gb278, 0, none⟩ (.slice Ao19 t280.length co19)).heap[gb289]? = some (.cells #[.int .i64 t283, .string t284, .int .u64 t285, .bool t286, .bool t287] 30 (0, 0))) := ⟨by (with_reducible repeat (first | refine blk_drewN ?_ _ | refine blk_drew ?_ | refine blk_alloc ?_ _)); refine blk_far ?_ NB289_278.out _; (with_reducible repeat (first | refine blk_drewN ?_ _ | refine blk_drew ?_ | refine blk_alloc ?_ _)); refine blk_put (cs := #[.int .i64 t283, .string t284, .int .u64 t285, .bool t286, .bool false]) ?_ 4 _ rfl; (with_reducible repeat (first | refine blk_drewN ?_ _ | refine blk_drew ?_ | refine blk_alloc ?_ _)); refine blk_put (cs := #[.int .i64 t283, .string t284, .int .u64 t285, .bool false, .bool false]) ?_ 3 _ rfl; (with_reducible repeat (first | refine blk_drewN ?_ _ | refine blk_drew ?_ | refine blk_alloc ?_ _)); refine blk_put (cs := #[.int .i64 t283, .string t284, .int .u64 0, .bool false, .bool false]) ?_ 2 _ rfl; (with_reducible repeat (first | refine blk_drewN ?_ _ | refine blk_drew ?_ | refine blk_alloc ?_ _)); refine blk_put (cs := #[.int .i64 t283, .string (⟨#[]⟩ : ByteArray), .int .u64 0, .bool false, .bool false]) ?_ 1 _ rfl; (with_reducible repeat (first | refine blk_drewN ?_ _ | refine blk_drew ?_ | refine blk_alloc ?_ _)); refine blk_put (cs := #[.int .i64 0, .string (⟨#[]⟩ : ByteArray), .int .u64 0, .bool false, .bool false]) ?_ 0 _ rfl; (with_reducible repeat (first | refine blk_drewN ?_ _ | refine blk_drew ?_ | refine blk_alloc ?_ _)); refine blk_far ?_ NB289_288.out _; (with_reducible repeat (first | refine blk_drewN ?_ _ | refine blk_drew ?_ | refine blk_alloc ?_ _)); exact BK289.out⟩
              have n6_ : Aside0 (Below w.heap.size w (((((((w18.setCell ⟨gb288, 0, none⟩ (.slice Ao19 t280.length co19)).setCell ⟨gb289, 0, none⟩ (.int .i64 t283)).setCell ⟨gb289, 1, none⟩ (.string t284)).setCell ⟨gb289, 2, none⟩ (.int .u64 t285)).setCell ⟨gb289, 3, none⟩ (.bool t286)).setCell ⟨gb289, 4, none⟩ (.bool t287)).setCell ⟨gb278, 0, none⟩ (.slice Ao19 t280.length co19))) := ⟨hx_ HB⟩
              (try clear HO_279000)
              (try clear HO282)
              (try clear BK276)
              (try clear BK278)
              (try clear BK288)
              (try clear BK289)
              (try clear HB)
              generalize (((((((w18.setCell ⟨gb288, 0, none⟩ (.slice Ao19 t280.length co19)).setCell ⟨gb289, 0, none⟩ (.int .i64 t283)).setCell ⟨gb289, 1, none⟩ (.string t284)).setCell ⟨gb289, 2, none⟩ (.int .u64 t285)).setCell ⟨gb289, 3, none⟩ (.bool t286)).setCell ⟨gb289, 4, none⟩ (.bool t287)).setCell ⟨gb278, 0, none⟩ (.slice Ao19 t280.length co19)) = w36 at n0_ n1_ n2_ n3_ n4_ n5_ n6_ ⊢
              have HO_279000 := n0_
              have HO282 := n1_
              have BK276 := n2_
              have BK278 := n3_
              have BK288 := n4_
              have BK289 := n5_
              have HB := n6_
              clear n0_ n1_ n2_ n3_ n4_ n5_ n6_
              have n0_ := am_ (Kd.V_drew HO_279000.out)
              have n1_ := am_ (Kd.V_drew HO282.out)
              have n2_ := am_ (blk_drew BK276.out)
              have n3_ := am_ (blk_drew BK278.out)
              have n4_ := am_ (blk_drew BK288.out)
              have n5_ := am_ (blk_drew BK289.out)
              have n6_ := am_ (below_drew1 HB.out)
              clear HO_279000
              clear HO282
              clear BK276
              clear BK278
              clear BK288
              clear BK289
              clear HB
              have HO_279000 := n0_
              have HO282 := n1_
              have BK276 := n2_
              have BK278 := n3_
              have BK288 := n4_
              have BK289 := n5_
              have HB := n6_
              clear n0_ n1_ n2_ n3_ n4_ n5_ n6_
              have p290 : 0 ≤ (x9_1 : Int) := of_decide_eq_true (by first | (with_reducible assumption) | assumption)
              have q290 : x9_1 < (l0.length : Int) := of_decide_eq_true (by first | (with_reducible assumption) | assumption)
              obtain ⟨ad290, A290_4, c290_4, A290_6, c290_6, e290, hx290_0, hx290_1, hx290_2, hx290_3, hx290_4, hx290_5, hx290_6, hl290_4, hi290_4, hl290_6, hi290_6⟩ := at_T38 HR0.out x9_1 p290 q290
              have hw290_6 := hx290_6
              have hw290_5 := hx290_5
              have hw290_4 := hx290_4
              have hw290_3 := hx290_3
              have hw290_2 := hx290_2
              have hw290_1 := hx290_1
              have hw290_0 := hx290_0
              obtain rfl : ad279 = ad290 := (by injection e290)
              replace hx290_0 := (HB.out.cell (World.block_lt_of_cell? w _ hx290_0)).trans hx290_0
              replace hx290_1 := (HB.out.cell (World.block_lt_of_cell? w _ hx290_1)).trans hx290_1
              replace hx290_2 := (HB.out.cell (World.block_lt_of_cell? w _ hx290_2)).trans hx290_2
              replace hx290_3 := (HB.out.cell (World.block_lt_of_cell? w _ hx290_3)).trans hx290_3
              replace hx290_4 := (HB.out.cell (World.block_lt_of_cell? w _ hx290_4)).trans hx290_4
              replace hx290_5 := (HB.out.cell (World.block_lt_of_cell? w _ hx290_5)).trans hx290_5
              replace hx290_6 := (HB.out.cell (World.block_lt_of_cell? w _ hx290_6)).trans hx290_6
              have HR290_4 := am_ hi290_4
              have HC290_4 := am_ hl290_4
              clear hi290_4 hl290_4
              have HR290_6 := am_ hi290_6
              have HC290_6 := am_ hl290_6
              clear hi290_6 hl290_6
              replace p290 := eq_true p290
              replace q290 := eq_true q290
              refine start_ (n := 12) (S := fun w' => w'.cell? ⟨gb276, 0, none⟩ = some (.int .u64 a1_0) ∧ w'.cell? ⟨gb276, 1, none⟩ = some (.int .u64 a1_1) ∧ w'.cell? ⟨gb289, 0, none⟩ = some (.int .i64 t283) ∧ w'.cell? ⟨gb289, 1, none⟩ = some (.string t284) ∧ w'.cell? ⟨gb289, 2, none⟩ = some (.int .u64 t285) ∧ w'.cell? ⟨gb289, 3, none⟩ = some (.bool t286) ∧ w'.cell? ⟨gb289, 4, none⟩ = some (.bool t287) ∧ w'.cell? (ad279.add ((x9_1).toNat * 7)) = some (.int .i64 ((rd_T38 l0 x9_1).f0)) ∧ w'.cell? ⟨(ad279.add ((x9_1).toNat * 7)).block, (ad279.add ((x9_1).toNat * 7)).off + 1, none⟩ = some (.int .u64 ((rd_T38 l0 x9_1).f1.f0)) ∧ w'.cell? ⟨(ad279.add ((x9_1).toNat * 7)).block, (ad279.add ((x9_1).toNat * 7)).off + 2, none⟩ = some (.int .u64 ((rd_T38 l0 x9_1).f1.f1)) ∧ w'.cell? ⟨(ad279.add ((x9_1).toNat * 7)).block, (ad279.add ((x9_1).toNat * 7)).off + 3, none⟩ = some (.string ((rd_T38 l0 x9_1).f2)) ∧ w'.cell? ⟨(ad279.add ((x9_1).toNat * 7)).block, (ad279.add ((x9_1).toNat * 7)).off + 4, none⟩ = some (.slice A290_4 ((rd_T38 l0 x9_1).f3).length c290_4) ∧ w'.cell? ⟨(ad279.add ((x9_1).toNat * 7)).block, (ad279.add ((x9_1).toNat * 7)).off + 5, none⟩ = some (.bool ((rd_T38 l0 x9_1).f4)) ∧ w'.cell? ⟨(ad279.add ((x9_1).toNat * 7)).block, (ad279.add ((x9_1).toNat * 7)).off + 6, none⟩ = some (.slice A290_6 ((rd_T38 l0 x9_1).f5).length c290_6)) (ds := []) bN27_ (by kernel_rfl) rfl rfl ⟨(blk_cell BK276.out 0).trans rfl, (blk_cell BK276.out 1).trans rfl, (blk_cell BK289.out 0).trans rfl, (blk_cell BK289.out 1).trans rfl, (blk_cell BK289.out 2).trans rfl, (blk_cell BK289.out 3).trans rfl, (blk_cell BK289.out 4).trans rfl, ((HB.out.cell (World.block_lt_of_cell? w _ hw290_0)).trans hw290_0), ((HB.out.cell (World.block_lt_of_cell? w _ hw290_1)).trans hw290_1), ((HB.out.cell (World.block_lt_of_cell? w _ hw290_2)).trans hw290_2), ((HB.out.cell (World.block_lt_of_cell? w _ hw290_3)).trans hw290_3), ((HB.out.cell (World.block_lt_of_cell? w _ hw290_4)).trans hw290_4), ((HB.out.cell (World.block_lt_of_cell? w _ hw290_5)).trans hw290_5), ((HB.out.cell (World.block_lt_of_cell? w _ hw290_6)).trans hw290_6)⟩ (fun hHeld => ?_); refine with_tabW ferrulelaw14_CoordCommits.tab10 ferrulelaw14_CoordCommits.bits10 (fun HT_ HW_ => ?_)
              generalize w36.drew = w37 at HO_279000 HO282 BK276 BK278 BK288 BK289 HB HR290_4 HR290_6 hx290_0 hx290_1 hx290_2 hx290_3 hx290_4 hx290_5 hx290_6 hHeld ⊢
              refine pure_ (i := 0) (N := some 30) (v := ?_) (a' := ?_) bN28_ rfl rfl (any_of HT_.out (by kernel_rfl)) (fun _ _ _ h => h) (Or.inl ⟨by rfl, ?_⟩) ?_ ?_
              rotate_left
              · intro w'
                go_simp
                with_reducible rfl
              rotate_left
              · simp only [Act.put, List.setIfInBounds_toArray, List.set_cons_zero, List.set_cons_succ, i64_w, i32_w]
                rfl
              refine pure_ (i := 1) (N := some 31) (v := ?_) (a' := ?_) bN29_ rfl rfl (any_of HT_.out (by kernel_rfl)) (fun _ _ _ h => h) (Or.inl ⟨by rfl, ?_⟩) ?_ ?_
              rotate_left
              · intro w'
                go_simp
                with_reducible rfl
              rotate_left
              · simp only [Act.put, List.setIfInBounds_toArray, List.set_cons_zero, List.set_cons_succ, i64_w, i32_w]
                rfl
              refine pure_ (i := 2) (N := some 32) (v := ?_) (a' := ?_) bN30_ rfl rfl (any_of HT_.out (by kernel_rfl)) (fun _ _ _ h => h) (Or.inl ⟨by rfl, ?_⟩) ?_ ?_
              rotate_left
              · intro w'
                go_simp
                with_reducible rfl
              rotate_left
              · simp only [Act.put, List.setIfInBounds_toArray, List.set_cons_zero, List.set_cons_succ, i64_w, i32_w]
                rfl
              refine pure_ (i := 3) (N := some 33) (v := ?_) (a' := ?_) bN31_ rfl rfl (any_of HT_.out (by kernel_rfl)) (fun _ _ _ h => h) (Or.inl ⟨by rfl, ?_⟩) ?_ ?_
              rotate_left
              · intro w'
                go_simp
                with_reducible rfl
              rotate_left
              · simp only [Act.put, List.setIfInBounds_toArray, List.set_cons_zero, List.set_cons_succ, i64_w, i32_w]
                rfl
              refine take_ (i := 4) (N := some 34) (v := ?_) (a' := ?_) bN32_ rfl rfl (take_ofW HT_.out HW_.out (by kernel_rfl)) (fun _ _ _ h => h) (Or.inl ⟨by rfl, ?_⟩) hHeld ?_ ?_
              rotate_left
              · rintro w' ⟨s0, s1, s2, s3, s4, s5, s6, s7, s8, s9, s10, s11, s12, s13⟩
                go_simp
                with_reducible rfl
              rotate_left
              · simp only [Act.put, List.setIfInBounds_toArray, List.set_cons_zero, List.set_cons_succ, i64_w, i32_w]
                rfl
              refine take_ (i := 5) (N := some 35) (v := ?_) (a' := ?_) bN33_ rfl rfl (take_ofW HT_.out HW_.out (by kernel_rfl)) (fun _ _ _ h => h) (Or.inl ⟨by rfl, ?_⟩) hHeld ?_ ?_
              rotate_left
              · rintro w' ⟨s0, s1, s2, s3, s4, s5, s6, s7, s8, s9, s10, s11, s12, s13⟩
                go_simp
                with_reducible rfl
              rotate_left
              · simp only [Act.put, List.setIfInBounds_toArray, List.set_cons_zero, List.set_cons_succ, i64_w, i32_w]
                rfl
              refine pure_ (i := 6) (N := some 36) (v := ?_) (a' := ?_) bN34_ rfl rfl (any_of HT_.out (by kernel_rfl)) (fun _ _ _ h => h) (Or.inl ⟨by rfl, ?_⟩) ?_ ?_
              rotate_left
              · intro w'
                go_simp
                with_reducible rfl
              rotate_left
              · simp only [Act.put, List.setIfInBounds_toArray, List.set_cons_zero, List.set_cons_succ, i64_w, i32_w]
                rfl
              refine pure_ (i := 7) (N := some 37) (v := ?_) (a' := ?_) bN35_ rfl rfl (any_of HT_.out (by kernel_rfl)) (fun _ _ _ h => h) (Or.inl ⟨by rfl, ?_⟩) ?_ ?_
              rotate_left
              · intro w'
                go_simp
                with_reducible rfl
              rotate_left
              · simp only [Act.put, List.setIfInBounds_toArray, List.set_cons_zero, List.set_cons_succ, i64_w, i32_w]
                rfl
              refine pure_ (i := 8) (N := some 38) (v := ?_) (a' := ?_) bN36_ rfl rfl (any_of HT_.out (by kernel_rfl)) (fun _ _ _ h => h) (Or.inl ⟨by rfl, ?_⟩) ?_ ?_
              rotate_left
              · intro w'
                go_simp
                with_reducible rfl
              rotate_left
              · simp only [Act.put, List.setIfInBounds_toArray, List.set_cons_zero, List.set_cons_succ, i64_w, i32_w]
                rfl
              refine take_ (i := 9) (N := some 39) (v := ?_) (a' := ?_) bN37_ rfl rfl (take_ofW HT_.out HW_.out (by kernel_rfl)) (fun _ _ _ h => h) (Or.inl ⟨by rfl, ?_⟩) hHeld ?_ ?_
              rotate_left
              · rintro w' ⟨s0, s1, s2, s3, s4, s5, s6, s7, s8, s9, s10, s11, s12, s13⟩
                go_simp
                with_reducible rfl
              rotate_left
              · simp only [Act.put, List.setIfInBounds_toArray, List.set_cons_zero, List.set_cons_succ, i64_w, i32_w]
                rfl
              refine pure_ (i := 10) (N := some 40) (v := ?_) (a' := ?_) bN38_ rfl rfl (any_of HT_.out (by kernel_rfl)) (fun _ _ _ h => h) (Or.inl ⟨by rfl, ?_⟩) ?_ ?_
              rotate_left
              · intro w'
                go_simp
                with_reducible rfl
              rotate_left
              · simp only [Act.put, List.setIfInBounds_toArray, List.set_cons_zero, List.set_cons_succ, i64_w, i32_w]
                rfl
              refine pure_ (i := 11) (N := some 41) (v := ?_) (a' := ?_) bN39_ rfl rfl (any_of HT_.out (by kernel_rfl)) (fun _ _ _ h => h) (Or.inl ⟨by rfl, ?_⟩) ?_ ?_
              rotate_left
              · intro w'
                go_simp
                with_reducible rfl
              rotate_left
              · simp only [Act.put, List.setIfInBounds_toArray, List.set_cons_zero, List.set_cons_succ, i64_w, i32_w]
                rfl
              refine done_ (done_of HT_.out (by kernel_rfl)) ?_
              try go_wp2
              go_meet
              case rel => exact ⟨_, ((t283 != 0)), (by first | rfl | (simp; done) | (simp [*]; done)), H', ⟨by have := HK1.out; first | omega | exact Nat.le_refl _⟩, ⟨vx_ HO282⟩, ⟨vx_ HO282⟩, ⟨bx_ BK276⟩, ⟨bx_ BK278⟩, ⟨bx_ BK288⟩, ⟨bx_ BK289⟩, ⟨hx_ HB⟩⟩
          case rest =>
            clear HC12
            try clear c2
            try clear p2
            try clear q2
            try clear hx2
            try clear c3
            try clear c26
            try clear c27
            try clear c28
            try clear c29
            try clear p29
            try clear q29
            try clear hx29
            try clear c30
            try clear c31
            try clear c33
            try clear c33b0
            try clear hcz29_0
            try clear hcz32_0
            try clear hfz29_0
            try clear hfz32_0
            try clear hx290_0
            try clear hx290_1
            try clear hx290_2
            try clear hx290_3
            try clear hx290_4
            try clear hx290_5
            try clear hx290_6
            try clear p290
            try clear q290
            obtain ⟨kq, x41_11, rfl, HA, HJ11, HO_279000, HO_289000, BK276, BK278, BK288, BK289, HB⟩ := hcut
            cases kq with
            | zero => exact absurd HA.out (by simp [ferrulelaw14_CoordCommits.j1])
            | succ kj11 =>
              have H := HA.out
              clear HA
              simp only [ferrulelaw14_CoordCommits.j1] at H
              by_cases c38 : x41_11 = true
              · subst c38
                have H1 : (ferrulelaw14_CoordCommits.l0 kj11 l0 t277 x7_1 x8_1 (wrap64 (x9_1 + 1)) a1_0 a1_1 t280) = some r := by rw [if_pos rfl] at H; exact H
                clear H
                have H := H1
                clear H1
                have H' := am_ H
                clear H
                go_wp2
                go_roundg kj11
                case measure => have := HK1.out; have := HJ11.out; omega
                case rel => exact ⟨(x7_1), (x8_1), (wrap64 (x9_1 + 1)), (t280), (.slice Ao19 t280.length co19), (by first | rfl | (simp; done) | (simp [*]; done)), (by first | rfl | (simp; done) | (simp [*]; done)), (by first | rfl | (simp; done) | (simp [*]; done)), H', ⟨by have := HK1.out; have := HJ11.out; omega⟩, ⟨by (with_reducible repeat (first | apply Kd.V_alloc | apply Kd.V_drewN | apply Kd.V_drew)); exact Kd.V_mono HO_279000.out (fun _ hk => ⟨hk.1, hk.2.1⟩)⟩, ⟨bx_ BK276⟩, ⟨bx_ BK278⟩, ⟨hx_ HB⟩⟩
              · replace c38 := Bool.eq_false_iff.mpr c38
                subst c38
                have H1 : (if 0 ≤ x9_1 then (if x9_1 < (l0.length : Int) then (if ((rd_T38 l0 x9_1).f0) = 5 then (ferrulelaw14_CoordCommits.l0 kj11 l0 t277 true x8_1 (wrap64 (x9_1 + 1)) a1_0 a1_1 t280) else (if ((rd_T38 l0 x9_1).f0) = 6 then (ferrulelaw14_CoordCommits.j2 kj11 l0 t277 x7_1 x8_1 x9_1 (((rd_T38 l0 x9_1).f0) == 6) a1_0 a1_1 t280 t283 t284 t285 t286 t287) else (ferrulelaw14_CoordCommits.j2 kj11 l0 t277 x7_1 x8_1 x9_1 (((rd_T38 l0 x9_1).f0) == 7) a1_0 a1_1 t280 t283 t284 t285 t286 t287))) else (none)) else (none)) = some r := by rw [if_neg (show ¬ (false = true) by decide)] at H; exact H
                clear H
                have H := H1
                clear H1
                by_cases c39 : 0 ≤ x9_1
                · rw [if_pos c39] at H
                  have c39b0 : decide (0 ≤ x9_1) = true := decide_eq_true c39
                  clear c39
                  by_cases c40 : x9_1 < (l0.length : Int)
                  · rw [if_pos c40] at H
                    have c40b0 : decide (x9_1 < (l0.length : Int)) = true := decide_eq_true c40
                    clear c40
                    by_cases c41 : ((rd_T38 l0 x9_1).f0) = 5
                    · rw [if_pos c41] at H
                      have c41b0 : (((rd_T38 l0 x9_1).f0) == 5) = true := beq_iff_eq.mpr c41
                      have c41b1 : (((rd_T38 l0 x9_1).f0) != 5) = false := bne_eq_false_iff_eq.mpr c41
                      clear c41
                      have H' := am_ H
                      clear H
                      have p291 : 0 ≤ (x9_1 : Int) := of_decide_eq_true (by first | (with_reducible assumption) | assumption)
                      have q291 : x9_1 < (l0.length : Int) := of_decide_eq_true (by first | (with_reducible assumption) | assumption)
                      obtain ⟨ad291, A291_4, c291_4, A291_6, c291_6, e291, hx291_0, hx291_1, hx291_2, hx291_3, hx291_4, hx291_5, hx291_6, hl291_4, hi291_4, hl291_6, hi291_6⟩ := at_T38 HR0.out x9_1 p291 q291
                      obtain rfl : ad279 = ad291 := (by injection e291)
                      replace hx291_0 := (HB.out.cell (World.block_lt_of_cell? w _ hx291_0)).trans hx291_0
                      replace hx291_1 := (HB.out.cell (World.block_lt_of_cell? w _ hx291_1)).trans hx291_1
                      replace hx291_2 := (HB.out.cell (World.block_lt_of_cell? w _ hx291_2)).trans hx291_2
                      replace hx291_3 := (HB.out.cell (World.block_lt_of_cell? w _ hx291_3)).trans hx291_3
                      replace hx291_4 := (HB.out.cell (World.block_lt_of_cell? w _ hx291_4)).trans hx291_4
                      replace hx291_5 := (HB.out.cell (World.block_lt_of_cell? w _ hx291_5)).trans hx291_5
                      replace hx291_6 := (HB.out.cell (World.block_lt_of_cell? w _ hx291_6)).trans hx291_6
                      have HR291_4 := am_ hi291_4
                      have HC291_4 := am_ hl291_4
                      clear hi291_4 hl291_4
                      have HR291_6 := am_ hi291_6
                      have HC291_6 := am_ hl291_6
                      clear hi291_6 hl291_6
                      replace p291 := eq_true p291
                      replace q291 := eq_true q291
                      go_wp2
                      go_roundg kj11
                      case measure => have := HK1.out; have := HJ11.out; omega
                      case rel => exact ⟨(true), (x8_1), (wrap64 (x9_1 + 1)), (t280), (.slice Ao19 t280.length co19), (by first | rfl | (simp; done) | (simp [*]; done)), (by first | rfl | (simp; done) | (simp [*]; done)), (by first | rfl | (simp; done) | (simp [*]; done)), H', ⟨by have := HK1.out; have := HJ11.out; omega⟩, ⟨by (with_reducible repeat (first | apply Kd.V_alloc | apply Kd.V_drewN | apply Kd.V_drew)); exact Kd.V_mono HO_279000.out (fun _ hk => ⟨hk.1, hk.2.1⟩)⟩, ⟨bx_ BK276⟩, ⟨bx_ BK278⟩, ⟨hx_ HB⟩⟩
                    · rw [if_neg c41] at H
                      have c41b0 : (((rd_T38 l0 x9_1).f0) == 5) = false := beq_eq_false_iff_ne.mpr c41
                      have c41b1 : (((rd_T38 l0 x9_1).f0) != 5) = true := bne_iff_ne.mpr c41
                      have HC42 := am_ H
                      clear H
                      have p291 : 0 ≤ (x9_1 : Int) := of_decide_eq_true (by first | (with_reducible assumption) | assumption)
                      have q291 : x9_1 < (l0.length : Int) := of_decide_eq_true (by first | (with_reducible assumption) | assumption)
                      obtain ⟨ad291, A291_4, c291_4, A291_6, c291_6, e291, hx291_0, hx291_1, hx291_2, hx291_3, hx291_4, hx291_5, hx291_6, hl291_4, hi291_4, hl291_6, hi291_6⟩ := at_T38 HR0.out x9_1 p291 q291
                      obtain rfl : ad279 = ad291 := (by injection e291)
                      replace hx291_0 := (HB.out.cell (World.block_lt_of_cell? w _ hx291_0)).trans hx291_0
                      replace hx291_1 := (HB.out.cell (World.block_lt_of_cell? w _ hx291_1)).trans hx291_1
                      replace hx291_2 := (HB.out.cell (World.block_lt_of_cell? w _ hx291_2)).trans hx291_2
                      replace hx291_3 := (HB.out.cell (World.block_lt_of_cell? w _ hx291_3)).trans hx291_3
                      replace hx291_4 := (HB.out.cell (World.block_lt_of_cell? w _ hx291_4)).trans hx291_4
                      replace hx291_5 := (HB.out.cell (World.block_lt_of_cell? w _ hx291_5)).trans hx291_5
                      replace hx291_6 := (HB.out.cell (World.block_lt_of_cell? w _ hx291_6)).trans hx291_6
                      have HR291_4 := am_ hi291_4
                      have HC291_4 := am_ hl291_4
                      clear hi291_4 hl291_4
                      have HR291_6 := am_ hi291_6
                      have HC291_6 := am_ hl291_6
                      clear hi291_6 hl291_6
                      replace p291 := eq_true p291
                      replace q291 := eq_true q291
                      go_upto_if 49 with (fail)
                      go_cut [49] (fun v49 wc => ∃ (kq : Nat) (x49_41 : Bool), v49 = .bool x49_41 ∧ Aside0 (ferrulelaw14_CoordCommits.j2 kq l0 t277 x7_1 x8_1 x9_1 x49_41 a1_0 a1_1 t280 t283 t284 t285 t286 t287 = some r) ∧ Aside0 (kq ≤ kj11) ∧ Aside0 (Kd.V k42 42 wc w.heap.size (fun k_ => k_ ≠ gb276 ∧ k_ ≠ gb278 ∧ k_ ≠ gb288 ∧ k_ ≠ gb289) (.slice Ao19 t280.length co19) t280) ∧ Aside0 (Kd.V k42 42 wc w.heap.size (fun k_ => k_ ≠ gb276 ∧ k_ ≠ gb278 ∧ k_ ≠ gb288 ∧ k_ ≠ gb289) (.slice Ao19 t280.length co19) t280) ∧ Aside0 (wc.heap[gb276]? = some (.cells #[.int .u64 a1_0, .int .u64 a1_1] 34 (0, 0))) ∧ Aside0 (wc.heap[gb278]? = some (.cells #[(.slice Ao19 t280.length co19)] 26 (0, 0))) ∧ Aside0 (wc.heap[gb288]? = some (.cells #[(.slice Ao19 t280.length co19)] 26 (0, 0))) ∧ Aside0 (wc.heap[gb289]? = some (.cells #[.int .i64 t283, .string t284, .int .u64 t285, .bool t286, .bool t287] 30 (0, 0))) ∧ Aside0 (Below w.heap.size w wc))
                      case first =>
                        have H := HC42.out
                        clear HC42
                        by_cases c43 : ((rd_T38 l0 x9_1).f0) = 6
                        · rw [if_pos c43] at H
                          have c43b0 : (((rd_T38 l0 x9_1).f0) == 6) = true := beq_iff_eq.mpr c43
                          have c43b1 : (((rd_T38 l0 x9_1).f0) != 6) = false := bne_eq_false_iff_eq.mpr c43
                          clear c43
                          (first | rw [c43b0] | (simp only [i64_w, i32_w]; rw [c43b0]) | skip)
                          have H' := am_ H
                          clear H
                          go_wp2
                          go_meet
                          case rel => exact ⟨_, ((((rd_T38 l0 x9_1).f0) == 6)), (by first | rfl | (simp; done) | (simp [*]; done)), H', ⟨by have := HK1.out; have := HJ11.out; first | omega | exact Nat.le_refl _⟩, ⟨vx_ HO_279000⟩, ⟨vx_ HO_289000⟩, ⟨bx_ BK276⟩, ⟨bx_ BK278⟩, ⟨bx_ BK288⟩, ⟨bx_ BK289⟩, ⟨hx_ HB⟩⟩
                        · rw [if_neg c43] at H
                          have c43b0 : (((rd_T38 l0 x9_1).f0) == 6) = false := beq_eq_false_iff_ne.mpr c43
                          have c43b1 : (((rd_T38 l0 x9_1).f0) != 6) = true := bne_iff_ne.mpr c43
                          (first | rw [c43b0] | (simp only [i64_w, i32_w]; rw [c43b0]) | skip)
                          have H' := am_ H
                          clear H
                          go_wp2
                          go_meet
                          case rel => exact ⟨_, ((((rd_T38 l0 x9_1).f0) == 7)), (by first | rfl | (simp; done) | (simp [*]; done)), H', ⟨by have := HK1.out; have := HJ11.out; first | omega | exact Nat.le_refl _⟩, ⟨vx_ HO_279000⟩, ⟨vx_ HO_289000⟩, ⟨bx_ BK276⟩, ⟨bx_ BK278⟩, ⟨bx_ BK288⟩, ⟨bx_ BK289⟩, ⟨hx_ HB⟩⟩
                      case rest =>
                        clear HC42
                        try clear c2
                        try clear p2
                        try clear q2
                        try clear hx2
                        try clear c3
                        try clear c4
                        try clear p6
                        try clear c26
                        try clear c27
                        try clear c28
                        try clear c29
                        try clear p29
                        try clear q29
                        try clear hx29
                        try clear c30
                        try clear c31
                        try clear c33
                        try clear c33b0
                        try clear c38
                        try clear c39
                        try clear c39b0
                        try clear c40
                        try clear c40b0
                        try clear c41
                        try clear c41b0
                        try clear c41b1
                        try clear c43
                        try clear c43b0
                        try clear c43b1
                        try clear hcz29_0
                        try clear hcz32_0
                        try clear hfz29_0
                        try clear hfz32_0
                        try clear hx290_0
                        try clear hx290_1
                        try clear hx290_2
                        try clear hx290_3
                        try clear hx290_4
                        try clear hx290_5
                        try clear hx290_6
                        try clear hx291_0
                        try clear hx291_1
                        try clear hx291_2
                        try clear hx291_3
                        try clear hx291_4
                        try clear hx291_5
                        try clear hx291_6
                        try clear p2
                        try clear p29
                        try clear p290
                        try clear p291
                        try clear q2
                        try clear q29
                        try clear q290
                        try clear q291
                        obtain ⟨kq, x49_41, rfl, HA, HJ41, HO_279000, HO_289000, BK276, BK278, BK288, BK289, HB⟩ := hcut
                        cases kq with
                        | zero => exact absurd HA.out (by simp [ferrulelaw14_CoordCommits.j2])
                        | succ kj41 =>
                          have H := HA.out
                          clear HA
                          simp only [ferrulelaw14_CoordCommits.j2] at H
                          by_cases c44 : x49_41 = true
                          · subst c44
                            have H1 : (if x8_1 = 0 then (if 0 ≤ x9_1 then (if x9_1 < (l0.length : Int) then (if ((rd_T38 l0 x9_1).f0) = 6 then (ferrulelaw14_CoordCommits.j3 kj41 l0 t277 x7_1 1 x9_1 ((rd_T38 l0 x9_1).f4) a1_0 a1_1 t280 t283 t284 t285 t286 t287) else (ferrulelaw14_CoordCommits.j3 kj41 l0 t277 x7_1 1 x9_1 false a1_0 a1_1 t280 t283 t284 t285 t286 t287)) else (none)) else (none)) else (if (t287 != (x8_1 == 2)) = true then (some false) else (if t287 = true then (if x7_1 = true then (ferrulelaw14_CoordCommits.l0 kj41 l0 t277 x7_1 x8_1 (wrap64 (x9_1 + 1)) a1_0 a1_1 t280) else (some false)) else (ferrulelaw14_CoordCommits.l0 kj41 l0 t277 x7_1 x8_1 (wrap64 (x9_1 + 1)) a1_0 a1_1 t280)))) = some r := by rw [if_pos rfl] at H; exact H
                            clear H
                            have H := H1
                            clear H1
                            by_cases c45 : x8_1 = 0
                            · rw [if_pos c45] at H
                              have c45b0 : (x8_1 == 0) = true := beq_iff_eq.mpr c45
                              have c45b1 : (x8_1 != 0) = false := bne_eq_false_iff_eq.mpr c45
                              clear c45
                              have HC46 := am_ H
                              clear H
                              go_upto_region 18 with (fail)
                              go_cut [66] (fun v66 wc => ∃ (kq : Nat) (x66_45 : Bool), v66 = .bool x66_45 ∧ Aside0 (ferrulelaw14_CoordCommits.j3 kq l0 t277 x7_1 1 x9_1 x66_45 a1_0 a1_1 t280 t283 t284 t285 t286 t287 = some r) ∧ Aside0 (kq ≤ kj41) ∧ Aside0 (Kd.V k42 42 wc w.heap.size (fun k_ => k_ ≠ gb276 ∧ k_ ≠ gb278 ∧ k_ ≠ gb288 ∧ k_ ≠ gb289) (.slice Ao19 t280.length co19) t280) ∧ Aside0 (Kd.V k42 42 wc w.heap.size (fun k_ => k_ ≠ gb276 ∧ k_ ≠ gb278 ∧ k_ ≠ gb288 ∧ k_ ≠ gb289) (.slice Ao19 t280.length co19) t280) ∧ Aside0 (wc.heap[gb276]? = some (.cells #[.int .u64 a1_0, .int .u64 a1_1] 34 (0, 0))) ∧ Aside0 (wc.heap[gb278]? = some (.cells #[(.slice Ao19 t280.length co19)] 26 (0, 0))) ∧ Aside0 (wc.heap[gb288]? = some (.cells #[(.slice Ao19 t280.length co19)] 26 (0, 0))) ∧ Aside0 (wc.heap[gb289]? = some (.cells #[.int .i64 t283, .string t284, .int .u64 t285, .bool t286, .bool t287] 30 (0, 0))) ∧ Aside0 (Below w.heap.size w wc))
                              case first =>
                                have H := HC46.out
                                clear HC46
                                by_cases c47 : 0 ≤ x9_1
                                · rw [if_pos c47] at H
                                  have c47b0 : decide (0 ≤ x9_1) = true := decide_eq_true c47
                                  clear c47
                                  (first | rw [c47b0] | (simp only [i64_w, i32_w]; rw [c47b0]) | skip)
                                  by_cases c48 : x9_1 < (l0.length : Int)
                                  · rw [if_pos c48] at H
                                    have c48b0 : decide (x9_1 < (l0.length : Int)) = true := decide_eq_true c48
                                    clear c48
                                    by_cases c49 : ((rd_T38 l0 x9_1).f0) = 6
                                    · rw [if_pos c49] at H
                                      have c49b0 : (((rd_T38 l0 x9_1).f0) == 6) = true := beq_iff_eq.mpr c49
                                      have c49b1 : (((rd_T38 l0 x9_1).f0) != 6) = false := bne_eq_false_iff_eq.mpr c49
                                      clear c49
                                      have H' := am_ H
                                      clear H
                                      have p292 : 0 ≤ (x9_1 : Int) := of_decide_eq_true (by first | (with_reducible assumption) | assumption)
                                      have q292 : x9_1 < (l0.length : Int) := of_decide_eq_true (by first | (with_reducible assumption) | assumption)
                                      obtain ⟨ad292, A292_4, c292_4, A292_6, c292_6, e292, hx292_0, hx292_1, hx292_2, hx292_3, hx292_4, hx292_5, hx292_6, hl292_4, hi292_4, hl292_6, hi292_6⟩ := at_T38 HR0.out x9_1 p292 q292
                                      obtain rfl : ad279 = ad292 := (by injection e292)
                                      replace hx292_0 := (HB.out.cell (World.block_lt_of_cell? w _ hx292_0)).trans hx292_0
                                      replace hx292_1 := (HB.out.cell (World.block_lt_of_cell? w _ hx292_1)).trans hx292_1
                                      replace hx292_2 := (HB.out.cell (World.block_lt_of_cell? w _ hx292_2)).trans hx292_2
                                      replace hx292_3 := (HB.out.cell (World.block_lt_of_cell? w _ hx292_3)).trans hx292_3
                                      replace hx292_4 := (HB.out.cell (World.block_lt_of_cell? w _ hx292_4)).trans hx292_4
                                      replace hx292_5 := (HB.out.cell (World.block_lt_of_cell? w _ hx292_5)).trans hx292_5
                                      replace hx292_6 := (HB.out.cell (World.block_lt_of_cell? w _ hx292_6)).trans hx292_6
                                      have HR292_4 := am_ hi292_4
                                      have HC292_4 := am_ hl292_4
                                      clear hi292_4 hl292_4
                                      have HR292_6 := am_ hi292_6
                                      have HC292_6 := am_ hl292_6
                                      clear hi292_6 hl292_6
                                      replace p292 := eq_true p292
                                      replace q292 := eq_true q292
                                      have p293 : 0 ≤ (x9_1 : Int) := of_decide_eq_true (by first | (with_reducible assumption) | assumption)
                                      have q293 : x9_1 < (l0.length : Int) := of_decide_eq_true (by first | (with_reducible assumption) | assumption)
                                      obtain ⟨ad293, A293_4, c293_4, A293_6, c293_6, e293, hx293_0, hx293_1, hx293_2, hx293_3, hx293_4, hx293_5, hx293_6, hl293_4, hi293_4, hl293_6, hi293_6⟩ := at_T38 HR0.out x9_1 p293 q293
                                      obtain rfl : ad279 = ad293 := (by injection e293)
                                      replace hx293_0 := (HB.out.cell (World.block_lt_of_cell? w _ hx293_0)).trans hx293_0
                                      replace hx293_1 := (HB.out.cell (World.block_lt_of_cell? w _ hx293_1)).trans hx293_1
                                      replace hx293_2 := (HB.out.cell (World.block_lt_of_cell? w _ hx293_2)).trans hx293_2
                                      replace hx293_3 := (HB.out.cell (World.block_lt_of_cell? w _ hx293_3)).trans hx293_3
                                      replace hx293_4 := (HB.out.cell (World.block_lt_of_cell? w _ hx293_4)).trans hx293_4
                                      replace hx293_5 := (HB.out.cell (World.block_lt_of_cell? w _ hx293_5)).trans hx293_5
                                      replace hx293_6 := (HB.out.cell (World.block_lt_of_cell? w _ hx293_6)).trans hx293_6
                                      have HR293_4 := am_ hi293_4
                                      have HC293_4 := am_ hl293_4
                                      clear hi293_4 hl293_4
                                      have HR293_6 := am_ hi293_6
                                      have HC293_6 := am_ hl293_6
                                      clear hi293_6 hl293_6
                                      replace p293 := eq_true p293
                                      replace q293 := eq_true q293
                                      have ea_ := Option.some.inj (hx292_4.symm.trans hx293_4)
                                      injection ea_ with ea_ en_ ec_
                                      subst ea_
                                      subst ec_
                                      clear en_
                                      have ea_ := Option.some.inj (hx292_6.symm.trans hx293_6)
                                      injection ea_ with ea_ en_ ec_
                                      subst ea_
                                      subst ec_
                                      clear en_
                                      go_wp2
                                      go_meet
                                      case rel => exact ⟨_, ((rd_T38 l0 x9_1).f4), (by first | rfl | (simp; done) | (simp [*]; done)), H', ⟨by have := HK1.out; have := HJ11.out; have := HJ41.out; first | omega | exact Nat.le_refl _⟩, ⟨vx_ HO_279000⟩, ⟨vx_ HO_289000⟩, ⟨bx_ BK276⟩, ⟨bx_ BK278⟩, ⟨bx_ BK288⟩, ⟨bx_ BK289⟩, ⟨hx_ HB⟩⟩
                                    · rw [if_neg c49] at H
                                      have c49b0 : (((rd_T38 l0 x9_1).f0) == 6) = false := beq_eq_false_iff_ne.mpr c49
                                      have c49b1 : (((rd_T38 l0 x9_1).f0) != 6) = true := bne_iff_ne.mpr c49
                                      have H' := am_ H
                                      clear H
                                      have p292 : 0 ≤ (x9_1 : Int) := of_decide_eq_true (by first | (with_reducible assumption) | assumption)
                                      have q292 : x9_1 < (l0.length : Int) := of_decide_eq_true (by first | (with_reducible assumption) | assumption)
                                      obtain ⟨ad292, A292_4, c292_4, A292_6, c292_6, e292, hx292_0, hx292_1, hx292_2, hx292_3, hx292_4, hx292_5, hx292_6, hl292_4, hi292_4, hl292_6, hi292_6⟩ := at_T38 HR0.out x9_1 p292 q292
                                      obtain rfl : ad279 = ad292 := (by injection e292)
                                      replace hx292_0 := (HB.out.cell (World.block_lt_of_cell? w _ hx292_0)).trans hx292_0
                                      replace hx292_1 := (HB.out.cell (World.block_lt_of_cell? w _ hx292_1)).trans hx292_1
                                      replace hx292_2 := (HB.out.cell (World.block_lt_of_cell? w _ hx292_2)).trans hx292_2
                                      replace hx292_3 := (HB.out.cell (World.block_lt_of_cell? w _ hx292_3)).trans hx292_3
                                      replace hx292_4 := (HB.out.cell (World.block_lt_of_cell? w _ hx292_4)).trans hx292_4
                                      replace hx292_5 := (HB.out.cell (World.block_lt_of_cell? w _ hx292_5)).trans hx292_5
                                      replace hx292_6 := (HB.out.cell (World.block_lt_of_cell? w _ hx292_6)).trans hx292_6
                                      have HR292_4 := am_ hi292_4
                                      have HC292_4 := am_ hl292_4
                                      clear hi292_4 hl292_4
                                      have HR292_6 := am_ hi292_6
                                      have HC292_6 := am_ hl292_6
                                      clear hi292_6 hl292_6
                                      replace p292 := eq_true p292
                                      replace q292 := eq_true q292
                                      go_wp2
                                      go_meet
                                      case rel => exact ⟨_, (false), (by first | rfl | (simp; done) | (simp [*]; done)), H', ⟨by have := HK1.out; have := HJ11.out; have := HJ41.out; first | omega | exact Nat.le_refl _⟩, ⟨vx_ HO_279000⟩, ⟨vx_ HO_289000⟩, ⟨bx_ BK276⟩, ⟨bx_ BK278⟩, ⟨bx_ BK288⟩, ⟨bx_ BK289⟩, ⟨hx_ HB⟩⟩
                                  · rw [if_neg c48] at H
                                    exact absurd H (by simp)
                                · rw [if_neg c47] at H
                                  exact absurd H (by simp)
                              case rest =>
                                clear HC46
                                try clear c2
                                try clear p2
                                try clear q2
                                try clear hx2
                                try clear c3
                                try clear c4
                                try clear p6
                                try clear c26
                                try clear c27
                                try clear c28
                                try clear c29
                                try clear p29
                                try clear q29
                                try clear hx29
                                try clear c30
                                try clear c31
                                try clear c33
                                try clear c33b0
                                try clear c38
                                try clear c39
                                try clear c39b0
                                try clear c40
                                try clear c40b0
                                try clear c41
                                try clear c41b0
                                try clear c41b1
                                try clear c43
                                try clear c43b0
                                try clear c43b1
                                try clear c44
                                try clear c45
                                try clear c45b0
                                try clear c45b1
                                try clear c47
                                try clear c47b0
                                try clear c48
                                try clear c48b0
                                try clear c49
                                try clear c49b0
                                try clear c49b1
                                try clear hcz29_0
                                try clear hcz32_0
                                try clear hfz29_0
                                try clear hfz32_0
                                try clear hx290_0
                                try clear hx290_1
                                try clear hx290_2
                                try clear hx290_3
                                try clear hx290_4
                                try clear hx290_5
                                try clear hx290_6
                                try clear hx291_0
                                try clear hx291_1
                                try clear hx291_2
                                try clear hx291_3
                                try clear hx291_4
                                try clear hx291_5
                                try clear hx291_6
                                try clear hx292_0
                                try clear hx292_1
                                try clear hx292_2
                                try clear hx292_3
                                try clear hx292_4
                                try clear hx292_5
                                try clear hx292_6
                                try clear hx293_0
                                try clear hx293_1
                                try clear hx293_2
                                try clear hx293_3
                                try clear hx293_4
                                try clear hx293_5
                                try clear hx293_6
                                try clear p2
                                try clear p29
                                try clear p290
                                try clear p291
                                try clear p292
                                try clear p293
                                try clear p6
                                try clear q2
                                try clear q29
                                try clear q290
                                try clear q291
                                try clear q292
                                try clear q293
                                obtain ⟨kq, x66_45, rfl, HA, HJ45, HO_279000, HO_289000, BK276, BK278, BK288, BK289, HB⟩ := hcut
                                cases kq with
                                | zero => exact absurd HA.out (by simp [ferrulelaw14_CoordCommits.j3])
                                | succ kj45 =>
                                  have H := HA.out
                                  clear HA
                                  simp only [ferrulelaw14_CoordCommits.j3] at H
                                  by_cases c50 : x66_45 = true
                                  · subst c50
                                    have H1 : (if (t287 != (2 == 2)) = true then (some false) else (if t287 = true then (if x7_1 = true then (ferrulelaw14_CoordCommits.l0 kj45 l0 t277 x7_1 2 (wrap64 (x9_1 + 1)) a1_0 a1_1 t280) else (some false)) else (ferrulelaw14_CoordCommits.l0 kj45 l0 t277 x7_1 2 (wrap64 (x9_1 + 1)) a1_0 a1_1 t280))) = some r := by rw [if_pos rfl] at H; exact H
                                    clear H
                                    have H := H1
                                    clear H1
                                    by_cases c51 : (t287 != (2 == 2)) = true
                                    · rw [if_pos c51] at H
                                      have c51b0 : (t287 != (2 == 2)) = true := c51
                                      have c51q : t287 = false := by simpa using c51
                                      (try (have c51b1 : decide (t287 = (2 == 2)) = false := by simpa using c51))
                                      (try (have c51b2 : (t287 == (2 == 2)) = false := by simpa using c51))
                                      (try (have c51b3 : ¬ (t287 = (2 == 2)) := by simpa using c51))
                                      clear c51
                                      obtain rfl := Option.some.inj H
                                      have hnb52 := NB289_276.out
                                      have hnc52 := NB276_289.out
                                      have hnb53 := NB289_278.out
                                      have hnc53 := NB278_289.out
                                      have hnb54 := NB289_288.out
                                      have hnc54 := NB288_289.out
                                      have hcz55_0 : wc.cell? ⟨gb289, 0, none⟩ = some (.int .i64 t283) := (blk_cell BK289.out 0).trans rfl
                                      have hcz55_1 : wc.cell? ⟨gb289, 1, none⟩ = some (.string t284) := (blk_cell BK289.out 1).trans rfl
                                      have hcz55_2 : wc.cell? ⟨gb289, 2, none⟩ = some (.int .u64 t285) := (blk_cell BK289.out 2).trans rfl
                                      have hcz55_3 : wc.cell? ⟨gb289, 3, none⟩ = some (.bool t286) := (blk_cell BK289.out 3).trans rfl
                                      have hcz55_4 : wc.cell? ⟨gb289, 4, none⟩ = some (.bool t287) := (blk_cell BK289.out 4).trans rfl
                                      have hfz55_0 := blk_frozen BK289.out 0
                                      have hfz55_1 := blk_frozen BK289.out 1
                                      have hfz55_2 := blk_frozen BK289.out 2
                                      have hfz55_3 := blk_frozen BK289.out 3
                                      have hfz55_4 := blk_frozen BK289.out 4
                                      go_wp2
                                      go_ret
                                      exact ⟨by first | rfl | (simp [errW_none, errW_some] <;> rfl) | (simp [*, errW_none, errW_some] <;> rfl), hx_ HB⟩
                                    · rw [if_neg c51] at H
                                      have c51b0 : (t287 != (2 == 2)) = false := by simpa using c51
                                      (try (have c51b1 : decide (t287 = (2 == 2)) = true := by simpa using c51))
                                      (try (have c51b2 : (t287 == (2 == 2)) = true := by simpa using c51))
                                      clear c51
                                      have c51q : t287 = true := by revert c51b0; cases t287 <;> simp
                                      by_cases c56 : t287 = true
                                      · subst c56
                                        have H1 : (if x7_1 = true then (ferrulelaw14_CoordCommits.l0 kj45 l0 t277 x7_1 2 (wrap64 (x9_1 + 1)) a1_0 a1_1 t280) else (some false)) = some r := by rw [if_pos rfl] at H; exact H
                                        clear H
                                        have H := H1
                                        clear H1
                                        by_cases c57 : x7_1 = true
                                        · subst c57
                                          have H1 : (ferrulelaw14_CoordCommits.l0 kj45 l0 t277 true 2 (wrap64 (x9_1 + 1)) a1_0 a1_1 t280) = some r := by rw [if_pos rfl] at H; exact H
                                          clear H
                                          have H := H1
                                          clear H1
                                          have H' := am_ H
                                          clear H
                                          have hnb58 := NB289_276.out
                                          have hnc58 := NB276_289.out
                                          have hnb59 := NB289_278.out
                                          have hnc59 := NB278_289.out
                                          have hnb60 := NB289_288.out
                                          have hnc60 := NB288_289.out
                                          have hcz61_0 : wc.cell? ⟨gb289, 0, none⟩ = some (.int .i64 t283) := (blk_cell BK289.out 0).trans rfl
                                          have hcz61_1 : wc.cell? ⟨gb289, 1, none⟩ = some (.string t284) := (blk_cell BK289.out 1).trans rfl
                                          have hcz61_2 : wc.cell? ⟨gb289, 2, none⟩ = some (.int .u64 t285) := (blk_cell BK289.out 2).trans rfl
                                          have hcz61_3 : wc.cell? ⟨gb289, 3, none⟩ = some (.bool t286) := (blk_cell BK289.out 3).trans rfl
                                          have hcz61_4 : wc.cell? ⟨gb289, 4, none⟩ = some (.bool true) := (blk_cell BK289.out 4).trans rfl
                                          have hfz61_0 := blk_frozen BK289.out 0
                                          have hfz61_1 := blk_frozen BK289.out 1
                                          have hfz61_2 := blk_frozen BK289.out 2
                                          have hfz61_3 := blk_frozen BK289.out 3
                                          have hfz61_4 := blk_frozen BK289.out 4
                                          go_wp2
                                          go_roundg kj45
                                          case measure => have := HK1.out; have := HJ11.out; have := HJ41.out; have := HJ45.out; omega
                                          case rel => exact ⟨(true), (2), (wrap64 (x9_1 + 1)), (t280), (.slice Ao19 t280.length co19), (by first | rfl | (simp; done) | (simp [*]; done)), (by first | rfl | (simp; done) | (simp [*]; done)), (by first | rfl | (simp; done) | (simp [*]; done)), H', ⟨by have := HK1.out; have := HJ11.out; have := HJ41.out; have := HJ45.out; omega⟩, ⟨by (with_reducible repeat (first | apply Kd.V_alloc | apply Kd.V_drewN | apply Kd.V_drew)); exact Kd.V_mono HO_279000.out (fun _ hk => ⟨hk.1, hk.2.1⟩)⟩, ⟨bx_ BK276⟩, ⟨bx_ BK278⟩, ⟨hx_ HB⟩⟩
                                        · replace c57 := Bool.eq_false_iff.mpr c57
                                          subst c57
                                          have H1 : (some false) = some r := by rw [if_neg (show ¬ (false = true) by decide)] at H; exact H
                                          clear H
                                          have H := H1
                                          clear H1
                                          obtain rfl := Option.some.inj H
                                          have hnb62 := NB289_276.out
                                          have hnc62 := NB276_289.out
                                          have hnb63 := NB289_278.out
                                          have hnc63 := NB278_289.out
                                          have hnb64 := NB289_288.out
                                          have hnc64 := NB288_289.out
                                          have hcz65_0 : wc.cell? ⟨gb289, 0, none⟩ = some (.int .i64 t283) := (blk_cell BK289.out 0).trans rfl
                                          have hcz65_1 : wc.cell? ⟨gb289, 1, none⟩ = some (.string t284) := (blk_cell BK289.out 1).trans rfl
                                          have hcz65_2 : wc.cell? ⟨gb289, 2, none⟩ = some (.int .u64 t285) := (blk_cell BK289.out 2).trans rfl
                                          have hcz65_3 : wc.cell? ⟨gb289, 3, none⟩ = some (.bool t286) := (blk_cell BK289.out 3).trans rfl
                                          have hcz65_4 : wc.cell? ⟨gb289, 4, none⟩ = some (.bool true) := (blk_cell BK289.out 4).trans rfl
                                          have hfz65_0 := blk_frozen BK289.out 0
                                          have hfz65_1 := blk_frozen BK289.out 1
                                          have hfz65_2 := blk_frozen BK289.out 2
                                          have hfz65_3 := blk_frozen BK289.out 3
                                          have hfz65_4 := blk_frozen BK289.out 4
                                          go_wp2
                                          go_ret
                                          exact ⟨by first | rfl | (simp [errW_none, errW_some] <;> rfl) | (simp [*, errW_none, errW_some] <;> rfl), hx_ HB⟩
                                      · exact absurd c51q c56
                                  · replace c50 := Bool.eq_false_iff.mpr c50
                                    subst c50
                                    have H1 : (if (t287 != (1 == 2)) = true then (some false) else (if t287 = true then (if x7_1 = true then (ferrulelaw14_CoordCommits.l0 kj45 l0 t277 x7_1 1 (wrap64 (x9_1 + 1)) a1_0 a1_1 t280) else (some false)) else (ferrulelaw14_CoordCommits.l0 kj45 l0 t277 x7_1 1 (wrap64 (x9_1 + 1)) a1_0 a1_1 t280))) = some r := by rw [if_neg (show ¬ (false = true) by decide)] at H; exact H
                                    clear H
                                    have H := H1
                                    clear H1
                                    by_cases c70 : (t287 != (1 == 2)) = true
                                    · rw [if_pos c70] at H
                                      have c70b0 : (t287 != (1 == 2)) = true := c70
                                      have c70q : t287 = true := by simpa using c70
                                      (try (have c70b1 : decide (t287 = (1 == 2)) = false := by simpa using c70))
                                      (try (have c70b2 : (t287 == (1 == 2)) = false := by simpa using c70))
                                      (try (have c70b3 : ¬ (t287 = (1 == 2)) := by simpa using c70))
                                      clear c70
                                      obtain rfl := Option.some.inj H
                                      have hnb71 := NB289_276.out
                                      have hnc71 := NB276_289.out
                                      have hnb72 := NB289_278.out
                                      have hnc72 := NB278_289.out
                                      have hnb73 := NB289_288.out
                                      have hnc73 := NB288_289.out
                                      have hcz74_0 : wc.cell? ⟨gb289, 0, none⟩ = some (.int .i64 t283) := (blk_cell BK289.out 0).trans rfl
                                      have hcz74_1 : wc.cell? ⟨gb289, 1, none⟩ = some (.string t284) := (blk_cell BK289.out 1).trans rfl
                                      have hcz74_2 : wc.cell? ⟨gb289, 2, none⟩ = some (.int .u64 t285) := (blk_cell BK289.out 2).trans rfl
                                      have hcz74_3 : wc.cell? ⟨gb289, 3, none⟩ = some (.bool t286) := (blk_cell BK289.out 3).trans rfl
                                      have hcz74_4 : wc.cell? ⟨gb289, 4, none⟩ = some (.bool t287) := (blk_cell BK289.out 4).trans rfl
                                      have hfz74_0 := blk_frozen BK289.out 0
                                      have hfz74_1 := blk_frozen BK289.out 1
                                      have hfz74_2 := blk_frozen BK289.out 2
                                      have hfz74_3 := blk_frozen BK289.out 3
                                      have hfz74_4 := blk_frozen BK289.out 4
                                      go_wp2
                                      go_ret
                                      exact ⟨by first | rfl | (simp [errW_none, errW_some] <;> rfl) | (simp [*, errW_none, errW_some] <;> rfl), hx_ HB⟩
                                    · rw [if_neg c70] at H
                                      have c70b0 : (t287 != (1 == 2)) = false := by simpa using c70
                                      (try (have c70b1 : decide (t287 = (1 == 2)) = true := by simpa using c70))
                                      (try (have c70b2 : (t287 == (1 == 2)) = true := by simpa using c70))
                                      clear c70
                                      have c70q : t287 = false := by revert c70b0; cases t287 <;> simp
                                      by_cases c75 : t287 = true
                                      · exact absurd (c70q.symm.trans c75) (by decide)
                                      · replace c75 := Bool.eq_false_iff.mpr c75
                                        subst c75
                                        have H1 : (ferrulelaw14_CoordCommits.l0 kj45 l0 t277 x7_1 1 (wrap64 (x9_1 + 1)) a1_0 a1_1 t280) = some r := by rw [if_neg (show ¬ (false = true) by decide)] at H; exact H
                                        clear H
                                        have H := H1
                                        clear H1
                                        have H' := am_ H
                                        clear H
                                        have hnb85 := NB289_276.out
                                        have hnc85 := NB276_289.out
                                        have hnb86 := NB289_278.out
                                        have hnc86 := NB278_289.out
                                        have hnb87 := NB289_288.out
                                        have hnc87 := NB288_289.out
                                        have hcz88_0 : wc.cell? ⟨gb289, 0, none⟩ = some (.int .i64 t283) := (blk_cell BK289.out 0).trans rfl
                                        have hcz88_1 : wc.cell? ⟨gb289, 1, none⟩ = some (.string t284) := (blk_cell BK289.out 1).trans rfl
                                        have hcz88_2 : wc.cell? ⟨gb289, 2, none⟩ = some (.int .u64 t285) := (blk_cell BK289.out 2).trans rfl
                                        have hcz88_3 : wc.cell? ⟨gb289, 3, none⟩ = some (.bool t286) := (blk_cell BK289.out 3).trans rfl
                                        have hcz88_4 : wc.cell? ⟨gb289, 4, none⟩ = some (.bool false) := (blk_cell BK289.out 4).trans rfl
                                        have hfz88_0 := blk_frozen BK289.out 0
                                        have hfz88_1 := blk_frozen BK289.out 1
                                        have hfz88_2 := blk_frozen BK289.out 2
                                        have hfz88_3 := blk_frozen BK289.out 3
                                        have hfz88_4 := blk_frozen BK289.out 4
                                        go_wp2
                                        go_roundg kj45
                                        case measure => have := HK1.out; have := HJ11.out; have := HJ41.out; have := HJ45.out; omega
                                        case rel => exact ⟨(x7_1), (1), (wrap64 (x9_1 + 1)), (t280), (.slice Ao19 t280.length co19), (by first | rfl | (simp; done) | (simp [*]; done)), (by first | rfl | (simp; done) | (simp [*]; done)), (by first | rfl | (simp; done) | (simp [*]; done)), H', ⟨by have := HK1.out; have := HJ11.out; have := HJ41.out; have := HJ45.out; omega⟩, ⟨by (with_reducible repeat (first | apply Kd.V_alloc | apply Kd.V_drewN | apply Kd.V_drew)); exact Kd.V_mono HO_279000.out (fun _ hk => ⟨hk.1, hk.2.1⟩)⟩, ⟨bx_ BK276⟩, ⟨bx_ BK278⟩, ⟨hx_ HB⟩⟩
                            · rw [if_neg c45] at H
                              have c45b0 : (x8_1 == 0) = false := beq_eq_false_iff_ne.mpr c45
                              have c45b1 : (x8_1 != 0) = true := bne_iff_ne.mpr c45
                              by_cases c89 : (t287 != (x8_1 == 2)) = true
                              · rw [if_pos c89] at H
                                have c89b0 : (t287 != (x8_1 == 2)) = true := c89
                                (try (have c89b1 : decide (t287 = (x8_1 == 2)) = false := by simpa using c89))
                                (try (have c89b2 : (t287 == (x8_1 == 2)) = false := by simpa using c89))
                                (try (have c89b3 : ¬ (t287 = (x8_1 == 2)) := by simpa using c89))
                                clear c89
                                obtain rfl := Option.some.inj H
                                have hnb90 := NB289_276.out
                                have hnc90 := NB276_289.out
                                have hnb91 := NB289_278.out
                                have hnc91 := NB278_289.out
                                have hnb92 := NB289_288.out
                                have hnc92 := NB288_289.out
                                have hcz93_0 : wc.cell? ⟨gb289, 0, none⟩ = some (.int .i64 t283) := (blk_cell BK289.out 0).trans rfl
                                have hcz93_1 : wc.cell? ⟨gb289, 1, none⟩ = some (.string t284) := (blk_cell BK289.out 1).trans rfl
                                have hcz93_2 : wc.cell? ⟨gb289, 2, none⟩ = some (.int .u64 t285) := (blk_cell BK289.out 2).trans rfl
                                have hcz93_3 : wc.cell? ⟨gb289, 3, none⟩ = some (.bool t286) := (blk_cell BK289.out 3).trans rfl
                                have hcz93_4 : wc.cell? ⟨gb289, 4, none⟩ = some (.bool t287) := (blk_cell BK289.out 4).trans rfl
                                have hfz93_0 := blk_frozen BK289.out 0
                                have hfz93_1 := blk_frozen BK289.out 1
                                have hfz93_2 := blk_frozen BK289.out 2
                                have hfz93_3 := blk_frozen BK289.out 3
                                have hfz93_4 := blk_frozen BK289.out 4
                                go_wp2
                                go_ret
                                exact ⟨by first | rfl | (simp [errW_none, errW_some] <;> rfl) | (simp [*, errW_none, errW_some] <;> rfl), hx_ HB⟩
                              · rw [if_neg c89] at H
                                have c89b0 : (t287 != (x8_1 == 2)) = false := by simpa using c89
                                (try (have c89b1 : decide (t287 = (x8_1 == 2)) = true := by simpa using c89))
                                (try (have c89b2 : (t287 == (x8_1 == 2)) = true := by simpa using c89))
                                clear c89
                                by_cases c94 : t287 = true
                                · subst c94
                                  have H1 : (if x7_1 = true then (ferrulelaw14_CoordCommits.l0 kj41 l0 t277 x7_1 x8_1 (wrap64 (x9_1 + 1)) a1_0 a1_1 t280) else (some false)) = some r := by rw [if_pos rfl] at H; exact H
                                  clear H
                                  have H := H1
                                  clear H1
                                  by_cases c95 : x7_1 = true
                                  · subst c95
                                    have H1 : (ferrulelaw14_CoordCommits.l0 kj41 l0 t277 true x8_1 (wrap64 (x9_1 + 1)) a1_0 a1_1 t280) = some r := by rw [if_pos rfl] at H; exact H
                                    clear H
                                    have H := H1
                                    clear H1
                                    have H' := am_ H
                                    clear H
                                    have hnb96 := NB289_276.out
                                    have hnc96 := NB276_289.out
                                    have hnb97 := NB289_278.out
                                    have hnc97 := NB278_289.out
                                    have hnb98 := NB289_288.out
                                    have hnc98 := NB288_289.out
                                    have hcz99_0 : wc.cell? ⟨gb289, 0, none⟩ = some (.int .i64 t283) := (blk_cell BK289.out 0).trans rfl
                                    have hcz99_1 : wc.cell? ⟨gb289, 1, none⟩ = some (.string t284) := (blk_cell BK289.out 1).trans rfl
                                    have hcz99_2 : wc.cell? ⟨gb289, 2, none⟩ = some (.int .u64 t285) := (blk_cell BK289.out 2).trans rfl
                                    have hcz99_3 : wc.cell? ⟨gb289, 3, none⟩ = some (.bool t286) := (blk_cell BK289.out 3).trans rfl
                                    have hcz99_4 : wc.cell? ⟨gb289, 4, none⟩ = some (.bool true) := (blk_cell BK289.out 4).trans rfl
                                    have hfz99_0 := blk_frozen BK289.out 0
                                    have hfz99_1 := blk_frozen BK289.out 1
                                    have hfz99_2 := blk_frozen BK289.out 2
                                    have hfz99_3 := blk_frozen BK289.out 3
                                    have hfz99_4 := blk_frozen BK289.out 4
                                    go_wp2
                                    go_roundg kj41
                                    case measure => have := HK1.out; have := HJ11.out; have := HJ41.out; omega
                                    case rel => exact ⟨(true), (x8_1), (wrap64 (x9_1 + 1)), (t280), (.slice Ao19 t280.length co19), (by first | rfl | (simp; done) | (simp [*]; done)), (by first | rfl | (simp; done) | (simp [*]; done)), (by first | rfl | (simp; done) | (simp [*]; done)), H', ⟨by have := HK1.out; have := HJ11.out; have := HJ41.out; omega⟩, ⟨by (with_reducible repeat (first | apply Kd.V_alloc | apply Kd.V_drewN | apply Kd.V_drew)); exact Kd.V_mono HO_279000.out (fun _ hk => ⟨hk.1, hk.2.1⟩)⟩, ⟨bx_ BK276⟩, ⟨bx_ BK278⟩, ⟨hx_ HB⟩⟩
                                  · replace c95 := Bool.eq_false_iff.mpr c95
                                    subst c95
                                    have H1 : (some false) = some r := by rw [if_neg (show ¬ (false = true) by decide)] at H; exact H
                                    clear H
                                    have H := H1
                                    clear H1
                                    obtain rfl := Option.some.inj H
                                    have hnb100 := NB289_276.out
                                    have hnc100 := NB276_289.out
                                    have hnb101 := NB289_278.out
                                    have hnc101 := NB278_289.out
                                    have hnb102 := NB289_288.out
                                    have hnc102 := NB288_289.out
                                    have hcz103_0 : wc.cell? ⟨gb289, 0, none⟩ = some (.int .i64 t283) := (blk_cell BK289.out 0).trans rfl
                                    have hcz103_1 : wc.cell? ⟨gb289, 1, none⟩ = some (.string t284) := (blk_cell BK289.out 1).trans rfl
                                    have hcz103_2 : wc.cell? ⟨gb289, 2, none⟩ = some (.int .u64 t285) := (blk_cell BK289.out 2).trans rfl
                                    have hcz103_3 : wc.cell? ⟨gb289, 3, none⟩ = some (.bool t286) := (blk_cell BK289.out 3).trans rfl
                                    have hcz103_4 : wc.cell? ⟨gb289, 4, none⟩ = some (.bool true) := (blk_cell BK289.out 4).trans rfl
                                    have hfz103_0 := blk_frozen BK289.out 0
                                    have hfz103_1 := blk_frozen BK289.out 1
                                    have hfz103_2 := blk_frozen BK289.out 2
                                    have hfz103_3 := blk_frozen BK289.out 3
                                    have hfz103_4 := blk_frozen BK289.out 4
                                    go_wp2
                                    go_ret
                                    exact ⟨by first | rfl | (simp [errW_none, errW_some] <;> rfl) | (simp [*, errW_none, errW_some] <;> rfl), hx_ HB⟩
                                · replace c94 := Bool.eq_false_iff.mpr c94
                                  subst c94
                                  have H1 : (ferrulelaw14_CoordCommits.l0 kj41 l0 t277 x7_1 x8_1 (wrap64 (x9_1 + 1)) a1_0 a1_1 t280) = some r := by rw [if_neg (show ¬ (false = true) by decide)] at H; exact H
                                  clear H
                                  have H := H1
                                  clear H1
                                  have H' := am_ H
                                  clear H
                                  have hnb104 := NB289_276.out
                                  have hnc104 := NB276_289.out
                                  have hnb105 := NB289_278.out
                                  have hnc105 := NB278_289.out
                                  have hnb106 := NB289_288.out
                                  have hnc106 := NB288_289.out
                                  have hcz107_0 : wc.cell? ⟨gb289, 0, none⟩ = some (.int .i64 t283) := (blk_cell BK289.out 0).trans rfl
                                  have hcz107_1 : wc.cell? ⟨gb289, 1, none⟩ = some (.string t284) := (blk_cell BK289.out 1).trans rfl
                                  have hcz107_2 : wc.cell? ⟨gb289, 2, none⟩ = some (.int .u64 t285) := (blk_cell BK289.out 2).trans rfl
                                  have hcz107_3 : wc.cell? ⟨gb289, 3, none⟩ = some (.bool t286) := (blk_cell BK289.out 3).trans rfl
                                  have hcz107_4 : wc.cell? ⟨gb289, 4, none⟩ = some (.bool false) := (blk_cell BK289.out 4).trans rfl
                                  have hfz107_0 := blk_frozen BK289.out 0
                                  have hfz107_1 := blk_frozen BK289.out 1
                                  have hfz107_2 := blk_frozen BK289.out 2
                                  have hfz107_3 := blk_frozen BK289.out 3
                                  have hfz107_4 := blk_frozen BK289.out 4
                                  go_wp2
                                  go_roundg kj41
                                  case measure => have := HK1.out; have := HJ11.out; have := HJ41.out; omega
                                  case rel => exact ⟨(x7_1), (x8_1), (wrap64 (x9_1 + 1)), (t280), (.slice Ao19 t280.length co19), (by first | rfl | (simp; done) | (simp [*]; done)), (by first | rfl | (simp; done) | (simp [*]; done)), (by first | rfl | (simp; done) | (simp [*]; done)), H', ⟨by have := HK1.out; have := HJ11.out; have := HJ41.out; omega⟩, ⟨by (with_reducible repeat (first | apply Kd.V_alloc | apply Kd.V_drewN | apply Kd.V_drew)); exact Kd.V_mono HO_279000.out (fun _ hk => ⟨hk.1, hk.2.1⟩)⟩, ⟨bx_ BK276⟩, ⟨bx_ BK278⟩, ⟨hx_ HB⟩⟩
                          · replace c44 := Bool.eq_false_iff.mpr c44
                            subst c44
                            have H1 : (ferrulelaw14_CoordCommits.l0 kj41 l0 t277 x7_1 x8_1 (wrap64 (x9_1 + 1)) a1_0 a1_1 t280) = some r := by rw [if_neg (show ¬ (false = true) by decide)] at H; exact H
                            clear H
                            have H := H1
                            clear H1
                            have H' := am_ H
                            clear H
                            go_wp2
                            go_roundg kj41
                            case measure => have := HK1.out; have := HJ11.out; have := HJ41.out; omega
                            case rel => exact ⟨(x7_1), (x8_1), (wrap64 (x9_1 + 1)), (t280), (.slice Ao19 t280.length co19), (by first | rfl | (simp; done) | (simp [*]; done)), (by first | rfl | (simp; done) | (simp [*]; done)), (by first | rfl | (simp; done) | (simp [*]; done)), H', ⟨by have := HK1.out; have := HJ11.out; have := HJ41.out; omega⟩, ⟨by (with_reducible repeat (first | apply Kd.V_alloc | apply Kd.V_drewN | apply Kd.V_drew)); exact Kd.V_mono HO_279000.out (fun _ hk => ⟨hk.1, hk.2.1⟩)⟩, ⟨bx_ BK276⟩, ⟨bx_ BK278⟩, ⟨hx_ HB⟩⟩
                  · rw [if_neg c40] at H
                    exact absurd H (by simp)
                · rw [if_neg c39] at H
                  exact absurd H (by simp)
        · rw [if_neg c10] at H
          exact absurd H (by simp)
      · rw [if_neg c9] at H
        have c9b0 : decide (x9_1 < (l0.length : Int)) = false := decide_eq_false c9
        clear c9
        obtain rfl := Option.some.inj H
        go_wp2
        go_ret
        exact ⟨by first | rfl | (simp [errW_none, errW_some] <;> rfl) | (simp [*, errW_none, errW_some] <;> rfl), hx_ HB⟩

end Go.Proofs.Ytdlkpejlkijgcaa.Pr
