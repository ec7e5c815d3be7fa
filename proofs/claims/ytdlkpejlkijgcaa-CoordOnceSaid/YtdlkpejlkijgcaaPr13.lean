/- What the program's functions compute, and that they compute it: printed out of the translation by a program of this session's (px.py, over the kit's printer). Conditions: none. -/
import Derived.Test.YtdlkpejlkijgcaaPr0
import Derived.Test.YtdlkpejlkijgcaaPr1
import Derived.Test.YtdlkpejlkijgcaaPr7
import Derived.Test.YtdlkpejlkijgcaaPr12
import Derived.Test.YtdlkpejlkijgcaaHandShown
namespace Go.Proofs.Ytdlkpejlkijgcaa.Pr
open Go.RowKit Go.Proofs.YtdlkpejlkijgcaaW.PrintWords Go.Proofs.YtdlkpejlkijgcaaW.PrintLast Go.Proofs.YtdlkpejlkijgcaaW.PrintMore
attribute [local go_sem] max2_int min2_int max_two min_two max_three min_three max_four min_four   -- for this text's walks alone
set_option linter.unusedVariables false
set_option linter.unusedSimpArgs false

attribute [local go_sem high] eqA34
/-! ### ferrulelaw14_CoordOnce: function 4 -/
mutual
def ferrulelaw14_CoordOnce.l0 : Nat → List (S38) → Bool → Bool → Bool → Int → Int → Int → List (S42) → Option (Bool)
  | 0, _, _, _, _, _, _, _, _ => none
  | k + 1, x0, x5, x7, x8, x9, x244000, x244001, x246000 => if x9 < (x0.length : Int) then (if 0 ≤ x9 then ((coord_Do.f k x246000 ((rd_T38 x0 x9).f0) ((rd_T38 x0 x9).f1.f0) ((rd_T38 x0 x9).f1.f1) ((rd_T38 x0 x9).f2) ((rd_T38 x0 x9).f3) ((rd_T38 x0 x9).f4) ((rd_T38 x0 x9).f5)).bind fun bt247 => (if (((rd_T38 x0 x9).f1.f0) == x244000 && (((rd_T38 x0 x9).f1.f1) == x244001)) = true then (if ((rd_T38 x0 x9).f0) = 6 then (ferrulelaw14_CoordOnce.j1 k x0 x5 x7 x8 x9 (bt247.2.1 == 0) x244000 x244001 bt247.1 bt247.2.1 bt247.2.2.1 bt247.2.2.2.1 bt247.2.2.2.2.1 bt247.2.2.2.2.2) else (if ((rd_T38 x0 x9).f0) = 7 then (ferrulelaw14_CoordOnce.j1 k x0 x5 x7 x8 x9 (bt247.2.1 == 0) x244000 x244001 bt247.1 bt247.2.1 bt247.2.2.1 bt247.2.2.2.1 bt247.2.2.2.2.1 bt247.2.2.2.2.2) else (ferrulelaw14_CoordOnce.j1 k x0 x5 x7 x8 x9 false x244000 x244001 bt247.1 bt247.2.1 bt247.2.2.1 bt247.2.2.2.1 bt247.2.2.2.2.1 bt247.2.2.2.2.2))) else (ferrulelaw14_CoordOnce.j1 k x0 x5 x7 x8 x9 false x244000 x244001 bt247.1 bt247.2.1 bt247.2.2.1 bt247.2.2.2.1 bt247.2.2.2.2.1 bt247.2.2.2.2.2))) else (none)) else (some x5)
def ferrulelaw14_CoordOnce.j1 : Nat → List (S38) → Bool → Bool → Bool → Int → Bool → Int → Int → List (S42) → Int → ByteArray → Int → Bool → Bool → Option (Bool)
  | 0, _, _, _, _, _, _, _, _, _, _, _, _, _, _ => none
  | k + 1, x0, x5, x7, x8, x9, x58, x244000, x244001, x256000, x257000, x257001, x257002, x257003, x257004 => if x58 = true then (if x7 = true then (ferrulelaw14_CoordOnce.j2 k x0 x5 x9 (x257004 != x8) x244000 x244001 x256000 x257000 x257001 x257002 x257003 x257004) else (ferrulelaw14_CoordOnce.j2 k x0 x5 x9 false x244000 x244001 x256000 x257000 x257001 x257002 x257003 x257004)) else ((ferruleref14_Find.f k x256000 x244000 x244001).bind fun bt268 => (if x7 = true then (if bt268.2.2.2.2 = true then (if bt268.2.2.2.1 = 0 then (none) else (if ((bt268.2.2.2.1 == 1) != x8) = true then (none) else (ferrulelaw14_CoordOnce.l0 k x0 x5 x7 x8 (wrap64 (x9 + 1)) x244000 x244001 x256000))) else (none)) else (ferrulelaw14_CoordOnce.l0 k x0 x5 x7 x8 (wrap64 (x9 + 1)) x244000 x244001 x256000)))
def ferrulelaw14_CoordOnce.j2 : Nat → List (S38) → Bool → Int → Bool → Int → Int → List (S42) → Int → ByteArray → Int → Bool → Bool → Option (Bool)
  | 0, _, _, _, _, _, _, _, _, _, _, _, _ => none
  | k + 1, x0, x5, x9, x65, x244000, x244001, x256000, x257000, x257001, x257002, x257003, x257004 => if x65 = true then (none) else ((ferruleref14_Find.f k x256000 x244000 x244001).bind fun bt260 => (if bt260.2.2.2.2 = true then (if bt260.2.2.2.1 = 0 then (none) else (if ((bt260.2.2.2.1 == 1) != x257004) = true then (none) else (ferrulelaw14_CoordOnce.l0 k x0 x5 true x257004 (wrap64 (x9 + 1)) x244000 x244001 x256000))) else (none)))
end
def ferrulelaw14_CoordOnce.f (k : Nat) (l0 : List (S38)) (a1_0 : Int) (a1_1 : Int) : Option (Bool) := (ferrulelaw14_shown.f).bind fun t244 => (ferrulelaw14_CoordOnce.l0 k l0 t244 false false 0 a1_0 a1_1 ([] : List (S42)))
theorem ferrulelaw14_CoordOnce.mono_l : ∀ k, (∀ y0 y1 y2 y3 y4 y5 y6 y7, LeO (ferrulelaw14_CoordOnce.l0 k y0 y1 y2 y3 y4 y5 y6 y7) (ferrulelaw14_CoordOnce.l0 (k + 1) y0 y1 y2 y3 y4 y5 y6 y7)) ∧ (∀ y0 y1 y2 y3 y4 y5 y6 y7 y8 y9 y10 y11 y12 y13, LeO (ferrulelaw14_CoordOnce.j1 k y0 y1 y2 y3 y4 y5 y6 y7 y8 y9 y10 y11 y12 y13) (ferrulelaw14_CoordOnce.j1 (k + 1) y0 y1 y2 y3 y4 y5 y6 y7 y8 y9 y10 y11 y12 y13)) ∧ (∀ y0 y1 y2 y3 y4 y5 y6 y7 y8 y9 y10 y11, LeO (ferrulelaw14_CoordOnce.j2 k y0 y1 y2 y3 y4 y5 y6 y7 y8 y9 y10 y11) (ferrulelaw14_CoordOnce.j2 (k + 1) y0 y1 y2 y3 y4 y5 y6 y7 y8 y9 y10 y11))
  | 0 => ⟨fun _ _ _ _ _ _ _ _ r h => by simp [ferrulelaw14_CoordOnce.l0] at h, fun _ _ _ _ _ _ _ _ _ _ _ _ _ _ r h => by simp [ferrulelaw14_CoordOnce.j1] at h, fun _ _ _ _ _ _ _ _ _ _ _ _ r h => by simp [ferrulelaw14_CoordOnce.j2] at h⟩
  | k + 1 => by
    obtain ⟨ih0, ih1, ih2⟩ := ferrulelaw14_CoordOnce.mono_l k
    refine ⟨?_, ?_, ?_⟩
    · intro y0 y1 y2 y3 y4 y5 y6 y7
      unfold ferrulelaw14_CoordOnce.l0
      repeat' first
      | (with_reducible exact ih0 _ _ _ _ _ _ _ _)
      | (with_reducible exact ih1 _ _ _ _ _ _ _ _ _ _ _ _ _ _)
      | (with_reducible exact ih2 _ _ _ _ _ _ _ _ _ _ _ _)
      | (with_reducible exact coord_Do.mono _ _ _ _ _ _ _ _ _)
      | (with_reducible exact ferruleref14_Find.mono _ _ _ _)
      | (with_reducible exact LeO.refl _)
      | (with_reducible exact LeO.none _)
      | (with_reducible refine LeO.ite ?_ ?_)
      | (with_reducible refine LeO.bind ?_ (fun _ => ?_))
      | exact ih0 _ _ _ _ _ _ _ _
      | exact ih1 _ _ _ _ _ _ _ _ _ _ _ _ _ _
      | exact ih2 _ _ _ _ _ _ _ _ _ _ _ _
      | exact coord_Do.mono _ _ _ _ _ _ _ _ _
      | exact ferruleref14_Find.mono _ _ _ _
      | exact LeO.none _
      | refine LeO.ite ?_ ?_
      | refine LeO.bind ?_ (fun _ => ?_)
    · intro y0 y1 y2 y3 y4 y5 y6 y7 y8 y9 y10 y11 y12 y13
      unfold ferrulelaw14_CoordOnce.j1
      repeat' first
      | (with_reducible exact ih0 _ _ _ _ _ _ _ _)
      | (with_reducible exact ih1 _ _ _ _ _ _ _ _ _ _ _ _ _ _)
      | (with_reducible exact ih2 _ _ _ _ _ _ _ _ _ _ _ _)
      | (with_reducible exact coord_Do.mono _ _ _ _ _ _ _ _ _)
      | (with_reducible exact ferruleref14_Find.mono _ _ _ _)
      | (with_reducible exact LeO.refl _)
      | (with_reducible exact LeO.none _)
      | (with_reducible refine LeO.ite ?_ ?_)
      | (with_reducible refine LeO.bind ?_ (fun _ => ?_))
      | exact ih0 _ _ _ _ _ _ _ _
      | exact ih1 _ _ _ _ _ _ _ _ _ _ _ _ _ _
      | exact ih2 _ _ _ _ _ _ _ _ _ _ _ _
      | exact coord_Do.mono _ _ _ _ _ _ _ _ _
      | exact ferruleref14_Find.mono _ _ _ _
      | exact LeO.none _
      | refine LeO.ite ?_ ?_
      | refine LeO.bind ?_ (fun _ => ?_)
    · intro y0 y1 y2 y3 y4 y5 y6 y7 y8 y9 y10 y11
      unfold ferrulelaw14_CoordOnce.j2
      repeat' first
      | (with_reducible exact ih0 _ _ _ _ _ _ _ _)
      | (with_reducible exact ih1 _ _ _ _ _ _ _ _ _ _ _ _ _ _)
      | (with_reducible exact ih2 _ _ _ _ _ _ _ _ _ _ _ _)
      | (with_reducible exact coord_Do.mono _ _ _ _ _ _ _ _ _)
      | (with_reducible exact ferruleref14_Find.mono _ _ _ _)
      | (with_reducible exact LeO.refl _)
      | (with_reducible exact LeO.none _)
      | (with_reducible refine LeO.ite ?_ ?_)
      | (with_reducible refine LeO.bind ?_ (fun _ => ?_))
      | exact ih0 _ _ _ _ _ _ _ _
      | exact ih1 _ _ _ _ _ _ _ _ _ _ _ _ _ _
      | exact ih2 _ _ _ _ _ _ _ _ _ _ _ _
      | exact coord_Do.mono _ _ _ _ _ _ _ _ _
      | exact ferruleref14_Find.mono _ _ _ _
      | exact LeO.none _
      | refine LeO.ite ?_ ?_
      | refine LeO.bind ?_ (fun _ => ?_)
theorem ferrulelaw14_CoordOnce.mono : ∀ a0 a1 a2 k, LeO (ferrulelaw14_CoordOnce.f k a0 a1 a2) (ferrulelaw14_CoordOnce.f (k + 1) a0 a1 a2) := by
  intro a0 a1 a2 k
  obtain ⟨ih0, ih1, ih2⟩ := ferrulelaw14_CoordOnce.mono_l k
  unfold ferrulelaw14_CoordOnce.f
  repeat' first
      | (with_reducible exact ih0 _ _ _ _ _ _ _ _)
      | (with_reducible exact ih1 _ _ _ _ _ _ _ _ _ _ _ _ _ _)
      | (with_reducible exact ih2 _ _ _ _ _ _ _ _ _ _ _ _)
      | (with_reducible exact coord_Do.mono _ _ _ _ _ _ _ _ _)
      | (with_reducible exact ferruleref14_Find.mono _ _ _ _)
      | (with_reducible exact LeO.refl _)
      | (with_reducible exact LeO.none _)
      | (with_reducible refine LeO.ite ?_ ?_)
      | (with_reducible refine LeO.bind ?_ (fun _ => ?_))
      | exact ih0 _ _ _ _ _ _ _ _
      | exact ih1 _ _ _ _ _ _ _ _ _ _ _ _ _ _
      | exact ih2 _ _ _ _ _ _ _ _ _ _ _ _
      | exact coord_Do.mono _ _ _ _ _ _ _ _ _
      | exact ferruleref14_Find.mono _ _ _ _
      | exact LeO.none _
      | refine LeO.ite ?_ ?_
      | refine LeO.bind ?_ (fun _ => ?_)
def ferrulelaw14_CoordOnce.T8 : Bool × List (List Nat × List Nat) := (true, [([], []), ([], []), ([], []), ([1, 2], [1, 2]), ([3], [3]), ([0, 4], [0, 4]), ([5], [5]), ([6], [6]), ([6], [6]), ([], []), ([], []), ([9, 7, 5, 0, 1, 2, 3, 4, 5, 6, 7, 9, 10], [7, 9]), ([10, 8, 11, 0, 1, 2, 3, 4, 5, 6, 7, 8, 9, 10, 11], [8, 10])])
def ferrulelaw14_CoordOnce.B8 : List Nat := [0, 0, 0, 6, 14, 31, 63, 127, 127, 0, 0, 1791, 4095]
theorem ferrulelaw14_CoordOnce.tab8 : rtab .any (opsOf Try.f4 8) = ferrulelaw14_CoordOnce.T8 := by kernel_rfl
theorem ferrulelaw14_CoordOnce.bits8 : waitsOk ferrulelaw14_CoordOnce.T8.2 ferrulelaw14_CoordOnce.B8 = true := by kernel_rfl
def ferrulelaw14_CoordOnce.T9 : Bool × List (List Nat × List Nat) := (true, [([], []), ([], []), ([0, 1], [0, 1]), ([2], [2]), ([3], [3]), ([], []), ([4, 5], [4, 5]), ([6], [6]), ([7], [7]), ([7], [7]), ([8, 9, 7], [7, 8, 9]), ([10, 7], [7, 10]), ([11, 7], [7, 11]), ([12, 7], [7, 12]), ([13, 7, 7], [7, 13]), ([14], [14]), ([14], [14]), ([15, 16, 14], [14, 15, 16]), ([17, 14], [14, 17]), ([18, 14], [14, 18]), ([19, 14], [14, 19]), ([14, 20, 7], [7, 14, 20]), ([7, 21], [7, 21]), ([22, 14], [22]), ([23], [23]), ([24, 23], [23, 24]), ([25, 23], [23, 25]), ([23, 26], [23, 26])])
def ferrulelaw14_CoordOnce.B9 : List Nat := [0, 0, 3, 7, 15, 0, 63, 127, 255, 255, 1023, 2047, 4095, 8191, 16383, 32767, 32767, 131071, 262143, 524287, 1048575, 2097151, 4194303, 8388607, 16777215, 33554431, 67108863, 134217727]
theorem ferrulelaw14_CoordOnce.tab9 : rtab .any (opsOf Try.f4 9) = ferrulelaw14_CoordOnce.T9 := by kernel_rfl
theorem ferrulelaw14_CoordOnce.bits9 : waitsOk ferrulelaw14_CoordOnce.T9.2 ferrulelaw14_CoordOnce.B9 = true := by kernel_rfl
namespace Sh13
theorem am_ {p : Prop} (h : p) : Aside0 p := ⟨h⟩
theorem bx_ {Q P : Prop} (b : Aside0 Q) (h : Q → P := by intro hq_; (with_reducible repeat (first | refine blk_drewN ?_ _ | refine blk_drew ?_ | refine blk_alloc ?_ _)); exact hq_) : P := h b.out
theorem hx_ {Q P : Prop} (b : Aside0 Q) (h : Q → P := by intro hq_; repeat (first | (with_reducible first | exact hq_ | apply below_alloc | apply pw_below_drewN | apply below_drew1 | refine below_set ?_ (Aside0.out (by assumption))) | exact hq_)) : P := h b.out
theorem fz_ {Q G P : Prop} (q : Q) (g : Aside0 G) (h : Q → G → P := by intro q_ g_; first | exact Nat.ne_of_lt (Nat.lt_of_lt_of_le (by have := World.block_lt_of_cell? _ _ q_; first | rwa [add_block] at this | exact this) g_) | (rw [add_block]; exact Nat.ne_of_lt (Nat.lt_of_lt_of_le (by have := World.block_lt_of_cell? _ _ q_; first | rwa [add_block] at this | exact this) g_)) | (show (Addr.add _ _).block ≠ _; rw [add_block]; exact Nat.ne_of_lt (Nat.lt_of_lt_of_le (by have := World.block_lt_of_cell? _ _ q_; first | rwa [add_block] at this | exact this) g_)) | (dsimp only; exact Nat.ne_of_lt (Nat.lt_of_lt_of_le (by have := World.block_lt_of_cell? _ _ q_; first | rwa [add_block] at this | exact this) g_))) : P := h q g.out
theorem vx_ {Q P : Prop} (b : Aside0 Q) (h : Q → P := by intro hq_; (with_reducible repeat (first | apply Kd.V_alloc | apply Kd.V_drewN | apply Kd.V_drew)); exact hq_) : P := h b.out
theorem rx_ {Q P : Prop} (b : Aside0 Q) (h : Q → P := by intro hq_; (with_reducible repeat (first | apply Kd.R_alloc | apply Kd.R_drewN | apply Kd.R_drew)); exact hq_) : P := h b.out
theorem nx_ {Q P : Prop} (b : Aside0 Q) (h : Q → P := by intro hq_; (with_reducible repeat (first | apply Kd.N_alloc | apply Kd.N_drewN | apply Kd.N_drew)); exact hq_) : P := h b.out
abbrev bN0_ : Array Bool := #[false, false, false, false, false, false, false, false, false, false, false, false, false]
abbrev bN1_ : Array Bool := #[false, true, false, false, false, false, false, false, false, false, false, false, false]
abbrev bN2_ : Array Bool := #[false, true, true, false, false, false, false, false, false, false, false, false, false]
abbrev bN3_ : Array Bool := #[false, true, true, true, false, false, false, false, false, false, false, false, false]
abbrev bN4_ : Array Bool := #[true, true, true, true, false, false, false, false, false, false, false, false, false]
abbrev bN5_ : Array Bool := #[true, true, true, true, true, false, false, false, false, false, false, false, false]
abbrev bN6_ : Array Bool := #[true, true, true, true, true, true, true, true, true, true, true, false, false]
abbrev bN7_ : Array Bool := #[true, true, true, true, true, true, true, true, true, true, false, false, false]
abbrev bN8_ : Array Bool := #[true, true, true, true, true, true, true, true, true, false, true, false, false]
abbrev bN9_ : Array Bool := #[true, true, true, true, true, false, false, false, false, true, true, false, false]
abbrev bN10_ : Array Bool := #[true, true, true, true, true, true, true, true, true, false, false, false, false]
abbrev bN11_ : Array Bool := #[true, true, true, true, true, false, false, false, false, true, false, false, false]
abbrev bN12_ : Array Bool := #[true, true, true, true, true, false, false, false, false, false, true, false, false]
abbrev bN13_ : Array Bool := #[true, true, true, true, true, true, false, false, false, false, false, false, false]
abbrev bN14_ : Array Bool := #[true, true, true, true, true, true, true, false, false, false, false, false, false]
abbrev bN15_ : Array Bool := #[true, true, true, true, true, true, true, true, false, false, false, false, false]
abbrev bN16_ : Array Bool := #[true, true, true, true, true, true, false, false, false, false, true, false, false]
abbrev bN17_ : Array Bool := #[true, true, true, true, true, true, true, false, false, false, true, false, false]
abbrev bN18_ : Array Bool := #[true, true, true, true, true, true, true, true, false, false, true, false, false]
abbrev bN19_ : Array Bool := #[true, true, true, true, true, true, false, false, false, true, false, false, false]
abbrev bN20_ : Array Bool := #[true, true, true, true, true, true, true, false, false, true, false, false, false]
abbrev bN21_ : Array Bool := #[true, true, true, true, true, true, true, true, false, true, false, false, false]
abbrev bN22_ : Array Bool := #[true, true, true, true, true, true, false, false, false, true, true, false, false]
abbrev bN23_ : Array Bool := #[true, true, true, true, true, true, true, false, false, true, true, false, false]
abbrev bN24_ : Array Bool := #[true, true, true, true, true, true, true, true, false, true, true, false, false]
abbrev bN25_ : Array Bool := #[true, true, true, true, true, true, true, true, true, true, true, true, false]
abbrev bN26_ : Array Bool := #[true, true, true, true, true, true, true, true, true, true, true, true, true]
abbrev bN27_ : Array Bool := #[false, false, false, false, false, false, false, false, false, false, false, false, false, false, false, false, false, false, false, false, false, false, false, false, false, false, false, false]
abbrev bN28_ : Array Bool := #[true, false, false, false, false, false, false, false, false, false, false, false, false, false, false, false, false, false, false, false, false, false, false, false, false, false, false, false]
abbrev bN29_ : Array Bool := #[true, true, false, false, false, false, false, false, false, false, false, false, false, false, false, false, false, false, false, false, false, false, false, false, false, false, false, false]
abbrev bN30_ : Array Bool := #[true, true, true, false, false, false, false, false, false, false, false, false, false, false, false, false, false, false, false, false, false, false, false, false, false, false, false, false]
abbrev bN31_ : Array Bool := #[true, true, true, true, false, false, false, false, false, false, false, false, false, false, false, false, false, false, false, false, false, false, false, false, false, false, false, false]
abbrev bN32_ : Array Bool := #[true, true, true, true, true, false, false, false, false, false, false, false, false, false, false, false, false, false, false, false, false, false, false, false, false, false, false, false]
abbrev bN33_ : Array Bool := #[true, true, true, true, true, true, false, false, false, false, false, false, false, false, false, false, false, false, false, false, false, false, false, false, false, false, false, false]
abbrev bN34_ : Array Bool := #[true, true, true, true, true, true, true, false, false, false, false, false, false, false, false, false, false, false, false, false, false, false, false, false, false, false, false, false]
abbrev bN35_ : Array Bool := #[true, true, true, true, true, true, true, true, false, false, false, false, false, false, false, false, false, false, false, false, false, false, false, false, false, false, false, false]
abbrev bN36_ : Array Bool := #[true, true, true, true, true, true, true, true, true, false, false, false, false, false, false, false, false, false, false, false, false, false, false, false, false, false, false, false]
abbrev bN37_ : Array Bool := #[true, true, true, true, true, true, true, true, true, true, false, false, false, false, false, false, false, false, false, false, false, false, false, false, false, false, false, false]
abbrev bN38_ : Array Bool := #[true, true, true, true, true, true, true, true, true, true, true, false, false, false, false, false, false, false, false, false, false, false, false, false, false, false, false, false]
abbrev bN39_ : Array Bool := #[true, true, true, true, true, true, true, true, true, true, true, true, false, false, false, false, false, false, false, false, false, false, false, false, false, false, false, false]
abbrev bN40_ : Array Bool := #[true, true, true, true, true, true, true, true, true, true, true, true, true, false, false, false, false, false, false, false, false, false, false, false, false, false, false, false]
abbrev bN41_ : Array Bool := #[true, true, true, true, true, true, true, true, true, true, true, true, true, true, false, false, false, false, false, false, false, false, false, false, false, false, false, false]
abbrev bN42_ : Array Bool := #[true, true, true, true, true, true, true, true, true, true, true, true, true, true, true, false, false, false, false, false, false, false, false, false, false, false, false, false]
abbrev bN43_ : Array Bool := #[true, true, true, true, true, true, true, true, true, true, true, true, true, true, true, true, false, false, false, false, false, false, false, false, false, false, false, false]
abbrev bN44_ : Array Bool := #[true, true, true, true, true, true, true, true, true, true, true, true, true, true, true, true, true, false, false, false, false, false, false, false, false, false, false, false]
abbrev bN45_ : Array Bool := #[true, true, true, true, true, true, true, true, true, true, true, true, true, true, true, true, true, true, false, false, false, false, false, false, false, false, false, false]
abbrev bN46_ : Array Bool := #[true, true, true, true, true, true, true, true, true, true, true, true, true, true, true, true, true, true, true, false, false, false, false, false, false, false, false, false]
abbrev bN47_ : Array Bool := #[true, true, true, true, true, true, true, true, true, true, true, true, true, true, true, true, true, true, true, true, false, false, false, false, false, false, false, false]
abbrev bN48_ : Array Bool := #[true, true, true, true, true, true, true, true, true, true, true, true, true, true, true, true, true, true, true, true, true, false, false, false, false, false, false, false]
abbrev bN49_ : Array Bool := #[true, true, true, true, true, true, true, true, true, true, true, true, true, true, true, true, true, true, true, true, true, true, false, false, false, false, false, false]
abbrev bN50_ : Array Bool := #[true, true, true, true, true, true, true, true, true, true, true, true, true, true, true, true, true, true, true, true, true, true, true, false, false, false, false, false]
abbrev bN51_ : Array Bool := #[true, true, true, true, true, true, true, true, true, true, true, true, true, true, true, true, true, true, true, true, true, true, true, true, false, false, false, false]
abbrev bN52_ : Array Bool := #[true, true, true, true, true, true, true, true, true, true, true, true, true, true, true, true, true, true, true, true, true, true, true, true, true, false, false, false]
abbrev bN53_ : Array Bool := #[true, true, true, true, true, true, true, true, true, true, true, true, true, true, true, true, true, true, true, true, true, true, true, true, true, true, false, false]
abbrev bN54_ : Array Bool := #[true, true, true, true, true, true, true, true, true, true, true, true, true, true, true, true, true, true, true, true, true, true, true, true, true, true, true, false]
abbrev bN55_ : Array Bool := #[true, true, true, true, true, true, true, true, true, true, true, true, true, true, true, true, true, true, true, true, true, true, true, true, true, true, true, true]
end Sh13
open Sh13
set_option maxHeartbeats 8000000 in
set_option maxRecDepth 100000 in
theorem ferrulelaw14_CoordOnce.calls (k : Nat) (A0 : Option Addr) (c0 : Nat) (l0 : List (S38)) (a1_0 : Int) (a1_1 : Int) (r : Bool) (w : World) (hr0 : Kd.C k38 w A0 l0.length l0) (hc0 : l0.length ≤ c0) (h : ferrulelaw14_CoordOnce.f k l0 a1_0 a1_1 = some r) :
  Calls Try.prog 4 #[.slice A0 l0.length c0, .agg #[.int .u64 a1_0, .int .u64 a1_1]] w fun e w' => e = .returned (.bool r) ∧ Below w.heap.size w w' := by
 have hu34 := Try.underlying34
 have hu26 := Try.underlying26
 have hu38 := Try.underlying38
 have hu30 := Try.underlying30
 have hu42 := Try.underlying42
 have HR0 := am_ hr0
 have HC0 := am_ hc0
 clear hr0 hc0
 have HB := am_ (Below.refl w.heap.size w)
 have H : ((ferrulelaw14_shown.f).bind fun t244 => (ferrulelaw14_CoordOnce.l0 k l0 t244 false false 0 a1_0 a1_1 ([] : List (S42)))) = some r := h
 clear h
 replace H := Option.bind_eq_some_iff.mp H
 obtain ⟨t244, A30, H⟩ := H
 replace H : (ferrulelaw14_CoordOnce.l0 k l0 t244 false false 0 a1_0 a1_1 ([] : List (S42))) = some r := H
 have A3 := am_ A30
 clear A30
 have H' := am_ H
 clear H
 go_enter Try.func4, Try.ntmps4
 go_wp2_with (first | ((with_reducible refine gate_dst (N := 3) rfl ?_); refine box_event ?hg (N := 3) ?hd (cs := #[.int .u64 a1_0, .int .u64 a1_1]) (t := 34) ?hr ?_; (case hd => rfl); (case hg => rfl); (case hr => first | (go_simp; done) | (go_simp; rfl)); intro gb243 hg w4 hbox hb; have n0_ := am_ (below_step (hx_ HB) hb); have n1_ := am_ (hbox); have n2_ := am_ ((by rw [hg]; exact (below_size (hx_ HB)) : w.heap.size ≤ gb243)); have n3_ := am_ ((by rw [hg]; exact (below_size (hx_ HB)) : w.heap.size ≤ gb243)); clear HB; have HB := n0_; have BK243 := n1_; have GW243 := n2_; have GE243 := n3_; clear n0_ n1_ n2_ n3_; clear hb hbox hg) | ((with_reducible refine gate_callee (f := 8) rfl ?_); refine goesL_ (some 14) rfl rfl Try.func8 (by kernel_rfl) rfl #[] rfl (by (try simp only [List.map_toArray, List.map_cons, List.map_nil]); first | done | rfl | (simp only [List.length_drop, List.length_take]; rfl)) ?_; (with_reducible refine (ferrulelaw14_shown.calls  t244 _ A3.out).mono ?_); rintro e w5 ⟨rfl, hb⟩; refine ⟨_, rfl, ?_⟩; have n0_ := am_ (blk_below (g := gb243) (o := .cells #[.int .u64 a1_0, .int .u64 a1_1] 34 (0, 0)) (bx_ BK243) hb); have n1_ := am_ (below_step (hx_ HB) hb); clear BK243; clear HB; have BK243 := n0_; have HB := n1_; clear n0_ n1_; (try clear hb); (try clear hb2); (try clear hk); (try clear hi)) | ((with_reducible refine gate_dst (N := 6) rfl ?_); refine box_event ?hg (N := 6) ?hd (cs := #[.slice none 0 0]) (t := 26) ?hr ?_; (case hd => rfl); (case hg => rfl); (case hr => first | (go_simp; done) | (go_simp; rfl)); intro gb245 hg w6 hbox hb; have n0_ := am_ (blk_below (g := gb243) (o := .cells #[.int .u64 a1_0, .int .u64 a1_1] 34 (0, 0)) (bx_ BK243) hb); have n1_ := am_ (below_step (hx_ HB) hb); have n2_ := am_ (hbox); have n3_ := am_ ((by rw [hg]; exact (below_size (hx_ HB)) : w.heap.size ≤ gb245)); have n4_ := am_ ((by rw [hg]; exact (below_size (hx_ HB)) : w.heap.size ≤ gb245)); have n5_ := am_ ((by rw [hg]; exact Nat.ne_of_lt (blk_lt (g := gb243) (o := .cells #[.int .u64 a1_0, .int .u64 a1_1] 34 (0, 0)) (bx_ BK243)) : gb243 ≠ gb245)); have n6_ := am_ ((by rw [hg]; exact Nat.ne_of_gt (blk_lt (g := gb243) (o := .cells #[.int .u64 a1_0, .int .u64 a1_1] 34 (0, 0)) (bx_ BK243)) : gb245 ≠ gb243)); clear BK243; clear HB; have BK243 := n0_; have HB := n1_; have BK245 := n2_; have GW245 := n3_; have GE245 := n4_; have NB243_245 := n5_; have NB245_243 := n6_; clear n0_ n1_ n2_ n3_ n4_ n5_ n6_; clear hb hbox hg; have hnb7 := NB245_243.out; have hnc7 := NB243_245.out; have hcz8_0 : w6.cell? ⟨gb245, 0, none⟩ = some (.slice none 0 0) := (blk_cell BK245.out 0).trans rfl; have hfz8_0 := blk_frozen BK245.out 0))
 go_loopg [7, 8, 9] k (fun kq v7 v8 v9 w' => ∃ (x7_1 : Bool) (x8_1 : Bool) (x9_1 : Int) (x246000_1 : List (S42)) (u246000 : Value), v7 = .bool x7_1 ∧ v8 = .bool x8_1 ∧ v9 = .int .i64 x9_1 ∧ Aside0 (ferrulelaw14_CoordOnce.l0 kq l0 t244 x7_1 x8_1 x9_1 a1_0 a1_1 x246000_1 = some r) ∧ Aside0 (kq ≤ k) ∧ Aside0 (Kd.V k42 42 w' w.heap.size (fun k_ => k_ ≠ gb243 ∧ k_ ≠ gb245) u246000 x246000_1) ∧ Aside0 (w'.heap[gb243]? = some (.cells #[.int .u64 a1_0, .int .u64 a1_1] 34 (0, 0))) ∧ Aside0 (w'.heap[gb245]? = some (.cells #[u246000] 26 (0, 0))) ∧ Aside0 (Below w.heap.size w w'))
 case atStart => exact ⟨(false), (false), (0), (([] : List (S42))), (.slice none 0 0), (by first | rfl | (simp; done) | (simp [*]; done)), (by first | rfl | (simp; done) | (simp [*]; done)), (by first | rfl | (simp; done) | (simp [*]; done)), H', ⟨Nat.le_refl _⟩, ⟨Kd.S_V (by first | exact Kd.S_nil _ _ _ _ _ | exact Kd.N_nil _ _ _ _ _ | exact Kd.V_nil _ _ _ _ _ | exact Kd.Q_nil _ _ _ _ _ | exact Kd.R_nil _ _ _ _ _ | exact Kd.S_nil _ _ _ w.heap.size _)⟩, ⟨by (with_reducible repeat (first | refine blk_drewN ?_ _ | refine blk_drew ?_ | refine blk_alloc ?_ _)); refine blk_far ?_ NB243_245.out _; (with_reducible repeat (first | refine blk_drewN ?_ _ | refine blk_drew ?_ | refine blk_alloc ?_ _)); exact BK243.out⟩, ⟨by (with_reducible repeat (first | refine blk_drewN ?_ _ | refine blk_drew ?_ | refine blk_alloc ?_ _)); refine blk_put (cs := #[.slice none 0 0]) ?_ 0 _ rfl; (with_reducible repeat (first | refine blk_drewN ?_ _ | refine blk_drew ?_ | refine blk_alloc ?_ _)); exact BK245.out⟩, ⟨hx_ HB⟩⟩
 case round =>
  clear H'
  try clear p2
  try clear c4
  try clear c7
  try clear c8
  try clear hcz8_0
  try clear hfz8_0
  obtain ⟨x7_1, x8_1, x9_1, x246000_1, u246000, rfl, rfl, rfl, HA, HK1, HO_246000, BK243, BK245, HB⟩ := hrel
  cases gk with
  | zero => exact absurd HA.out (by simp [ferrulelaw14_CoordOnce.l0])
  | succ k1 =>
   have H := HA.out
   clear HA
   simp only [ferrulelaw14_CoordOnce.l0] at H
   by_cases c9 : x9_1 < (l0.length : Int)
   ·rw [if_pos c9] at H
    have c9b0 : decide (x9_1 < (l0.length : Int)) = true := decide_eq_true c9
    clear c9
    by_cases c10 : 0 ≤ x9_1
    ·rw [if_pos c10] at H
     have c10b0 : decide (0 ≤ x9_1) = true := decide_eq_true c10
     clear c10
     replace H := Option.bind_eq_some_iff.mp H
     obtain ⟨⟨t247, t250, t251, t252, t253, t254⟩, A110, H⟩ := H
     replace H : (if (((rd_T38 l0 x9_1).f1.f0) == a1_0 && (((rd_T38 l0 x9_1).f1.f1) == a1_1)) = true then (if ((rd_T38 l0 x9_1).f0) = 6 then (ferrulelaw14_CoordOnce.j1 k1 l0 t244 x7_1 x8_1 x9_1 (t250 == 0) a1_0 a1_1 t247 t250 t251 t252 t253 t254) else (if ((rd_T38 l0 x9_1).f0) = 7 then (ferrulelaw14_CoordOnce.j1 k1 l0 t244 x7_1 x8_1 x9_1 (t250 == 0) a1_0 a1_1 t247 t250 t251 t252 t253 t254) else (ferrulelaw14_CoordOnce.j1 k1 l0 t244 x7_1 x8_1 x9_1 false a1_0 a1_1 t247 t250 t251 t252 t253 t254))) else (ferrulelaw14_CoordOnce.j1 k1 l0 t244 x7_1 x8_1 x9_1 false a1_0 a1_1 t247 t250 t251 t252 t253 t254)) = some r := H
     have A11 := am_ A110
     clear A110
     have HC12 := am_ H
     clear H
     obtain ⟨Ao13, co13, eo13⟩ := Kd.V_slice HO_246000.out
     subst eo13
     try go_wp2
     have n0_ := am_ (Kd.V_drew HO_246000.out)
     have n1_ := am_ (blk_drew BK243.out)
     have n2_ := am_ (blk_drew BK245.out)
     have n3_ := am_ (below_drew1 HB.out)
     clear HO_246000
     clear BK243
     clear BK245
     clear HB
     have HO_246000 := n0_
     have BK243 := n1_
     have BK245 := n2_
     have HB := n3_
     clear n0_ n1_ n2_ n3_
     have p246 : 0 ≤ (x9_1 : Int) := of_decide_eq_true (by first | (with_reducible assumption) | assumption)
     have q246 : x9_1 < (l0.length : Int) := of_decide_eq_true (by first | (with_reducible assumption) | assumption)
     obtain ⟨ad246, A246_4, c246_4, A246_6, c246_6, e246, hx246_0, hx246_1, hx246_2, hx246_3, hx246_4, hx246_5, hx246_6, hl246_4, hi246_4, hl246_6, hi246_6⟩ := at_T38 HR0.out x9_1 p246 q246
     have hw246_6 := hx246_6
     have hw246_5 := hx246_5
     have hw246_4 := hx246_4
     have hw246_3 := hx246_3
     have hw246_2 := hx246_2
     have hw246_1 := hx246_1
     have hw246_0 := hx246_0
     cases e246
     replace hx246_0 := (HB.out.cell (World.block_lt_of_cell? w _ hx246_0)).trans hx246_0
     replace hx246_1 := (HB.out.cell (World.block_lt_of_cell? w _ hx246_1)).trans hx246_1
     replace hx246_2 := (HB.out.cell (World.block_lt_of_cell? w _ hx246_2)).trans hx246_2
     replace hx246_3 := (HB.out.cell (World.block_lt_of_cell? w _ hx246_3)).trans hx246_3
     replace hx246_4 := (HB.out.cell (World.block_lt_of_cell? w _ hx246_4)).trans hx246_4
     replace hx246_5 := (HB.out.cell (World.block_lt_of_cell? w _ hx246_5)).trans hx246_5
     replace hx246_6 := (HB.out.cell (World.block_lt_of_cell? w _ hx246_6)).trans hx246_6
     have HR246_4 := am_ hi246_4
     have HC246_4 := am_ hl246_4
     clear hi246_4 hl246_4
     have HR246_6 := am_ hi246_6
     have HC246_6 := am_ hl246_6
     clear hi246_6 hl246_6
     replace p246 := eq_true p246
     replace q246 := eq_true q246
     refine start_ (n := 13) (S := fun w' => w'.cell? ⟨gb245, 0, none⟩ = some (.slice Ao13 x246000_1.length co13) ∧ w'.cell? (ad246.add ((x9_1).toNat * 7)) = some (.int .i64 ((rd_T38 l0 x9_1).f0)) ∧ w'.cell? ⟨(ad246.add ((x9_1).toNat * 7)).block, (ad246.add ((x9_1).toNat * 7)).off + 1, none⟩ = some (.int .u64 ((rd_T38 l0 x9_1).f1.f0)) ∧ w'.cell? ⟨(ad246.add ((x9_1).toNat * 7)).block, (ad246.add ((x9_1).toNat * 7)).off + 2, none⟩ = some (.int .u64 ((rd_T38 l0 x9_1).f1.f1)) ∧ w'.cell? ⟨(ad246.add ((x9_1).toNat * 7)).block, (ad246.add ((x9_1).toNat * 7)).off + 3, none⟩ = some (.string ((rd_T38 l0 x9_1).f2)) ∧ w'.cell? ⟨(ad246.add ((x9_1).toNat * 7)).block, (ad246.add ((x9_1).toNat * 7)).off + 4, none⟩ = some (.slice A246_4 ((rd_T38 l0 x9_1).f3).length c246_4) ∧ w'.cell? ⟨(ad246.add ((x9_1).toNat * 7)).block, (ad246.add ((x9_1).toNat * 7)).off + 5, none⟩ = some (.bool ((rd_T38 l0 x9_1).f4)) ∧ w'.cell? ⟨(ad246.add ((x9_1).toNat * 7)).block, (ad246.add ((x9_1).toNat * 7)).off + 6, none⟩ = some (.slice A246_6 ((rd_T38 l0 x9_1).f5).length c246_6)) (ds := []) bN0_ (by kernel_rfl) rfl rfl ⟨(blk_cell BK245.out 0).trans rfl, ((HB.out.cell (World.block_lt_of_cell? w _ hw246_0)).trans hw246_0), ((HB.out.cell (World.block_lt_of_cell? w _ hw246_1)).trans hw246_1), ((HB.out.cell (World.block_lt_of_cell? w _ hw246_2)).trans hw246_2), ((HB.out.cell (World.block_lt_of_cell? w _ hw246_3)).trans hw246_3), ((HB.out.cell (World.block_lt_of_cell? w _ hw246_4)).trans hw246_4), ((HB.out.cell (World.block_lt_of_cell? w _ hw246_5)).trans hw246_5), ((HB.out.cell (World.block_lt_of_cell? w _ hw246_6)).trans hw246_6)⟩ (fun hHeld => ?_); refine with_tabW ferrulelaw14_CoordOnce.tab8 ferrulelaw14_CoordOnce.bits8 (fun HT_ HW_ => ?_)
     generalize wr.drew = w14 at HO_246000 BK243 BK245 HB HR246_4 HR246_6 hx246_0 hx246_1 hx246_2 hx246_3 hx246_4 hx246_5 hx246_6 hHeld ⊢
     refine pure_ (i := 1) (N := some 24) (v := ?_) (a' := ?_) bN1_ rfl rfl (any_of HT_.out (by kernel_rfl)) (fun _ _ _ h => h) (Or.inl ⟨by rfl, ?_⟩) ?_ ?_; rotate_left; (intro w'; go_simp; with_reducible rfl); rotate_left; (simp only [Act.put, List.setIfInBounds_toArray, List.set_cons_zero, List.set_cons_succ, i64_w, i32_w]; rfl)
     refine pure_ (i := 2) (N := some 25) (v := ?_) (a' := ?_) bN2_ rfl rfl (any_of HT_.out (by kernel_rfl)) (fun _ _ _ h => h) (Or.inl ⟨by rfl, ?_⟩) ?_ ?_; rotate_left; (intro w'; go_simp; with_reducible rfl); rotate_left; (simp only [Act.put, List.setIfInBounds_toArray, List.set_cons_zero, List.set_cons_succ, i64_w, i32_w]; rfl)
     refine pure_ (i := 3) (N := some 26) (v := ?_) (a' := ?_) bN3_ rfl rfl (any_of HT_.out (by kernel_rfl)) (fun _ _ _ h => h) (Or.inl ⟨by rfl, ?_⟩) ?_ ?_; rotate_left; (intro w'; go_simp; with_reducible rfl); rotate_left; (simp only [Act.put, List.setIfInBounds_toArray, List.set_cons_zero, List.set_cons_succ, i64_w, i32_w]; rfl)
     refine take_ (i := 0) (N := some 23) (v := ?_) (a' := ?_) bN4_ rfl rfl (take_ofW HT_.out HW_.out (by kernel_rfl)) (fun _ _ _ h => h) (Or.inl ⟨by rfl, ?_⟩) hHeld ?_ ?_; rotate_left; (rintro w' ⟨s0, s1, s2, s3, s4, s5, s6, s7⟩; go_simp; with_reducible rfl); rotate_left; (simp only [Act.put, List.setIfInBounds_toArray, List.set_cons_zero, List.set_cons_succ, i64_w, i32_w]; rfl)
     refine take_ (i := 4) (N := some 27) (v := ?_) (a' := ?_) bN5_ rfl rfl (take_ofW HT_.out HW_.out (by kernel_rfl)) (fun _ _ _ h => h) (Or.inl ⟨by rfl, ?_⟩) hHeld ?_ ?_; rotate_left; (rintro w' ⟨s0, s1, s2, s3, s4, s5, s6, s7⟩; go_simp; with_reducible rfl); rotate_left; (simp only [Act.put, List.setIfInBounds_toArray, List.set_cons_zero, List.set_cons_succ, i64_w, i32_w]; rfl)
     refine join_ (σ := Value × Nat × Nat) 2 bN6_ (fun s_ => [(28, .tuple #[.agg #[s_.1], .agg #[.int .i64 t250, .string t251, .int .u64 t252, .bool t253, .bool t254]]), (10, .pointer (some ⟨s_.2.1, 0, none⟩)), (11, .pointer (some ⟨s_.2.2, 0, none⟩)), (22, .tuple #[.agg #[s_.1], .agg #[.int .i64 t250, .string t251, .int .u64 t252, .bool t253, .bool t254]]), (29, .agg #[s_.1]), (30, .agg #[.int .i64 t250, .string t251, .int .u64 t252, .bool t253, .bool t254])]) (fun s_ w' => (w'.cell? ⟨gb245, 0, none⟩ = some (.slice Ao13 x246000_1.length co13) ∧ w'.cell? (ad246.add ((x9_1).toNat * 7)) = some (.int .i64 ((rd_T38 l0 x9_1).f0)) ∧ w'.cell? ⟨(ad246.add ((x9_1).toNat * 7)).block, (ad246.add ((x9_1).toNat * 7)).off + 1, none⟩ = some (.int .u64 ((rd_T38 l0 x9_1).f1.f0)) ∧ w'.cell? ⟨(ad246.add ((x9_1).toNat * 7)).block, (ad246.add ((x9_1).toNat * 7)).off + 2, none⟩ = some (.int .u64 ((rd_T38 l0 x9_1).f1.f1)) ∧ w'.cell? ⟨(ad246.add ((x9_1).toNat * 7)).block, (ad246.add ((x9_1).toNat * 7)).off + 3, none⟩ = some (.string ((rd_T38 l0 x9_1).f2)) ∧ w'.cell? ⟨(ad246.add ((x9_1).toNat * 7)).block, (ad246.add ((x9_1).toNat * 7)).off + 4, none⟩ = some (.slice A246_4 ((rd_T38 l0 x9_1).f3).length c246_4) ∧ w'.cell? ⟨(ad246.add ((x9_1).toNat * 7)).block, (ad246.add ((x9_1).toNat * 7)).off + 5, none⟩ = some (.bool ((rd_T38 l0 x9_1).f4)) ∧ w'.cell? ⟨(ad246.add ((x9_1).toNat * 7)).block, (ad246.add ((x9_1).toNat * 7)).off + 6, none⟩ = some (.slice A246_6 ((rd_T38 l0 x9_1).f5).length c246_6)) ∧ (Kd.V k42 42 w' w.heap.size (fun k_ => k_ ≠ gb243 ∧ k_ ≠ gb245 ∧ k_ ≠ s_.2.1 ∧ k_ ≠ s_.2.2) s_.1 t247) ∧ (Kd.V k42 42 w' w.heap.size (fun k_ => k_ ≠ gb243 ∧ k_ ≠ gb245 ∧ k_ ≠ s_.2.1 ∧ k_ ≠ s_.2.2) (.slice Ao13 x246000_1.length co13) x246000_1) ∧ (w'.heap[gb243]? = some (.cells #[.int .u64 a1_0, .int .u64 a1_1] 34 (0, 0))) ∧ (w'.heap[gb245]? = some (.cells #[.slice Ao13 x246000_1.length co13] 26 (0, 0))) ∧ (w'.heap[s_.2.1]? = some (.cells #[.slice none 0 0] 26 (0, 0))) ∧ (w'.heap[s_.2.2]? = some (.cells #[.int .i64 0, .string (⟨#[]⟩ : ByteArray), .int .u64 0, .bool false, .bool false] 30 (0, 0))) ∧ (w.heap.size ≤ s_.2.1) ∧ (w.heap.size ≤ s_.2.1) ∧ (gb243 ≠ s_.2.1) ∧ (s_.2.1 ≠ gb243) ∧ (gb245 ≠ s_.2.1) ∧ (s_.2.1 ≠ gb245) ∧ (s_.2.2 ≠ s_.2.1) ∧ (s_.2.1 ≠ s_.2.2) ∧ (w.heap.size ≤ s_.2.2) ∧ (w.heap.size ≤ s_.2.2) ∧ (gb243 ≠ s_.2.2) ∧ (s_.2.2 ≠ gb243) ∧ (gb245 ≠ s_.2.2) ∧ (s_.2.2 ≠ gb245) ∧ (Below w.heap.size w w')) ?_ ?_
     rotate_left
     ·intro hJ5_9_10
      refine join_ (σ := Value × Nat) 3 bN7_ (fun s_ => [(28, .tuple #[.agg #[s_.1], .agg #[.int .i64 t250, .string t251, .int .u64 t252, .bool t253, .bool t254]]), (10, .pointer (some ⟨s_.2, 0, none⟩)), (22, .tuple #[.agg #[s_.1], .agg #[.int .i64 t250, .string t251, .int .u64 t252, .bool t253, .bool t254]]), (29, .agg #[s_.1]), (30, .agg #[.int .i64 t250, .string t251, .int .u64 t252, .bool t253, .bool t254])]) (fun s_ w' => (w'.cell? ⟨gb245, 0, none⟩ = some (.slice Ao13 x246000_1.length co13) ∧ w'.cell? (ad246.add ((x9_1).toNat * 7)) = some (.int .i64 ((rd_T38 l0 x9_1).f0)) ∧ w'.cell? ⟨(ad246.add ((x9_1).toNat * 7)).block, (ad246.add ((x9_1).toNat * 7)).off + 1, none⟩ = some (.int .u64 ((rd_T38 l0 x9_1).f1.f0)) ∧ w'.cell? ⟨(ad246.add ((x9_1).toNat * 7)).block, (ad246.add ((x9_1).toNat * 7)).off + 2, none⟩ = some (.int .u64 ((rd_T38 l0 x9_1).f1.f1)) ∧ w'.cell? ⟨(ad246.add ((x9_1).toNat * 7)).block, (ad246.add ((x9_1).toNat * 7)).off + 3, none⟩ = some (.string ((rd_T38 l0 x9_1).f2)) ∧ w'.cell? ⟨(ad246.add ((x9_1).toNat * 7)).block, (ad246.add ((x9_1).toNat * 7)).off + 4, none⟩ = some (.slice A246_4 ((rd_T38 l0 x9_1).f3).length c246_4) ∧ w'.cell? ⟨(ad246.add ((x9_1).toNat * 7)).block, (ad246.add ((x9_1).toNat * 7)).off + 5, none⟩ = some (.bool ((rd_T38 l0 x9_1).f4)) ∧ w'.cell? ⟨(ad246.add ((x9_1).toNat * 7)).block, (ad246.add ((x9_1).toNat * 7)).off + 6, none⟩ = some (.slice A246_6 ((rd_T38 l0 x9_1).f5).length c246_6)) ∧ (Kd.V k42 42 w' w.heap.size (fun k_ => k_ ≠ gb243 ∧ k_ ≠ gb245 ∧ k_ ≠ s_.2) s_.1 t247) ∧ (Kd.V k42 42 w' w.heap.size (fun k_ => k_ ≠ gb243 ∧ k_ ≠ gb245 ∧ k_ ≠ s_.2) (.slice Ao13 x246000_1.length co13) x246000_1) ∧ (w'.heap[gb243]? = some (.cells #[.int .u64 a1_0, .int .u64 a1_1] 34 (0, 0))) ∧ (w'.heap[gb245]? = some (.cells #[.slice Ao13 x246000_1.length co13] 26 (0, 0))) ∧ (w'.heap[s_.2]? = some (.cells #[.slice none 0 0] 26 (0, 0))) ∧ (w.heap.size ≤ s_.2) ∧ (w.heap.size ≤ s_.2) ∧ (gb243 ≠ s_.2) ∧ (s_.2 ≠ gb243) ∧ (gb245 ≠ s_.2) ∧ (s_.2 ≠ gb245) ∧ (Below w.heap.size w w')) ?_ ?_
      rotate_left
      ·intro hJ5_9
       refine join_ (σ := Value × Nat) 3 bN8_ (fun s_ => [(28, .tuple #[.agg #[s_.1], .agg #[.int .i64 t250, .string t251, .int .u64 t252, .bool t253, .bool t254]]), (11, .pointer (some ⟨s_.2, 0, none⟩)), (22, .tuple #[.agg #[s_.1], .agg #[.int .i64 t250, .string t251, .int .u64 t252, .bool t253, .bool t254]]), (29, .agg #[s_.1]), (30, .agg #[.int .i64 t250, .string t251, .int .u64 t252, .bool t253, .bool t254])]) (fun s_ w' => (w'.cell? ⟨gb245, 0, none⟩ = some (.slice Ao13 x246000_1.length co13) ∧ w'.cell? (ad246.add ((x9_1).toNat * 7)) = some (.int .i64 ((rd_T38 l0 x9_1).f0)) ∧ w'.cell? ⟨(ad246.add ((x9_1).toNat * 7)).block, (ad246.add ((x9_1).toNat * 7)).off + 1, none⟩ = some (.int .u64 ((rd_T38 l0 x9_1).f1.f0)) ∧ w'.cell? ⟨(ad246.add ((x9_1).toNat * 7)).block, (ad246.add ((x9_1).toNat * 7)).off + 2, none⟩ = some (.int .u64 ((rd_T38 l0 x9_1).f1.f1)) ∧ w'.cell? ⟨(ad246.add ((x9_1).toNat * 7)).block, (ad246.add ((x9_1).toNat * 7)).off + 3, none⟩ = some (.string ((rd_T38 l0 x9_1).f2)) ∧ w'.cell? ⟨(ad246.add ((x9_1).toNat * 7)).block, (ad246.add ((x9_1).toNat * 7)).off + 4, none⟩ = some (.slice A246_4 ((rd_T38 l0 x9_1).f3).length c246_4) ∧ w'.cell? ⟨(ad246.add ((x9_1).toNat * 7)).block, (ad246.add ((x9_1).toNat * 7)).off + 5, none⟩ = some (.bool ((rd_T38 l0 x9_1).f4)) ∧ w'.cell? ⟨(ad246.add ((x9_1).toNat * 7)).block, (ad246.add ((x9_1).toNat * 7)).off + 6, none⟩ = some (.slice A246_6 ((rd_T38 l0 x9_1).f5).length c246_6)) ∧ (Kd.V k42 42 w' w.heap.size (fun k_ => k_ ≠ gb243 ∧ k_ ≠ gb245 ∧ k_ ≠ s_.2) s_.1 t247) ∧ (Kd.V k42 42 w' w.heap.size (fun k_ => k_ ≠ gb243 ∧ k_ ≠ gb245 ∧ k_ ≠ s_.2) (.slice Ao13 x246000_1.length co13) x246000_1) ∧ (w'.heap[gb243]? = some (.cells #[.int .u64 a1_0, .int .u64 a1_1] 34 (0, 0))) ∧ (w'.heap[gb245]? = some (.cells #[.slice Ao13 x246000_1.length co13] 26 (0, 0))) ∧ (w'.heap[s_.2]? = some (.cells #[.int .i64 0, .string (⟨#[]⟩ : ByteArray), .int .u64 0, .bool false, .bool false] 30 (0, 0))) ∧ (w.heap.size ≤ s_.2) ∧ (w.heap.size ≤ s_.2) ∧ (gb243 ≠ s_.2) ∧ (s_.2 ≠ gb243) ∧ (gb245 ≠ s_.2) ∧ (s_.2 ≠ gb245) ∧ (Below w.heap.size w w')) ?_ ?_
       rotate_left
       ·intro hJ5_10
        refine join_ (σ := Nat × Nat) 6 bN9_ (fun s_ => [(10, .pointer (some ⟨s_.1, 0, none⟩)), (11, .pointer (some ⟨s_.2, 0, none⟩))]) (fun s_ w' => (w'.cell? ⟨gb245, 0, none⟩ = some (.slice Ao13 x246000_1.length co13) ∧ w'.cell? (ad246.add ((x9_1).toNat * 7)) = some (.int .i64 ((rd_T38 l0 x9_1).f0)) ∧ w'.cell? ⟨(ad246.add ((x9_1).toNat * 7)).block, (ad246.add ((x9_1).toNat * 7)).off + 1, none⟩ = some (.int .u64 ((rd_T38 l0 x9_1).f1.f0)) ∧ w'.cell? ⟨(ad246.add ((x9_1).toNat * 7)).block, (ad246.add ((x9_1).toNat * 7)).off + 2, none⟩ = some (.int .u64 ((rd_T38 l0 x9_1).f1.f1)) ∧ w'.cell? ⟨(ad246.add ((x9_1).toNat * 7)).block, (ad246.add ((x9_1).toNat * 7)).off + 3, none⟩ = some (.string ((rd_T38 l0 x9_1).f2)) ∧ w'.cell? ⟨(ad246.add ((x9_1).toNat * 7)).block, (ad246.add ((x9_1).toNat * 7)).off + 4, none⟩ = some (.slice A246_4 ((rd_T38 l0 x9_1).f3).length c246_4) ∧ w'.cell? ⟨(ad246.add ((x9_1).toNat * 7)).block, (ad246.add ((x9_1).toNat * 7)).off + 5, none⟩ = some (.bool ((rd_T38 l0 x9_1).f4)) ∧ w'.cell? ⟨(ad246.add ((x9_1).toNat * 7)).block, (ad246.add ((x9_1).toNat * 7)).off + 6, none⟩ = some (.slice A246_6 ((rd_T38 l0 x9_1).f5).length c246_6)) ∧ (Kd.V k42 42 w' w.heap.size (fun k_ => k_ ≠ gb243 ∧ k_ ≠ gb245 ∧ k_ ≠ s_.1 ∧ k_ ≠ s_.2) (.slice Ao13 x246000_1.length co13) x246000_1) ∧ (w'.heap[gb243]? = some (.cells #[.int .u64 a1_0, .int .u64 a1_1] 34 (0, 0))) ∧ (w'.heap[gb245]? = some (.cells #[.slice Ao13 x246000_1.length co13] 26 (0, 0))) ∧ (w'.heap[s_.1]? = some (.cells #[.slice none 0 0] 26 (0, 0))) ∧ (w'.heap[s_.2]? = some (.cells #[.int .i64 0, .string (⟨#[]⟩ : ByteArray), .int .u64 0, .bool false, .bool false] 30 (0, 0))) ∧ (w.heap.size ≤ s_.1) ∧ (w.heap.size ≤ s_.1) ∧ (gb243 ≠ s_.1) ∧ (s_.1 ≠ gb243) ∧ (gb245 ≠ s_.1) ∧ (s_.1 ≠ gb245) ∧ (s_.2 ≠ s_.1) ∧ (s_.1 ≠ s_.2) ∧ (w.heap.size ≤ s_.2) ∧ (w.heap.size ≤ s_.2) ∧ (gb243 ≠ s_.2) ∧ (s_.2 ≠ gb243) ∧ (gb245 ≠ s_.2) ∧ (s_.2 ≠ gb245) ∧ (Below w.heap.size w w')) ?_ ?_
        rotate_left
        ·intro hJ9_10
         refine join_ (σ := Value) 4 bN10_ (fun s_ => [(28, .tuple #[.agg #[s_], .agg #[.int .i64 t250, .string t251, .int .u64 t252, .bool t253, .bool t254]]), (22, .tuple #[.agg #[s_], .agg #[.int .i64 t250, .string t251, .int .u64 t252, .bool t253, .bool t254]]), (29, .agg #[s_]), (30, .agg #[.int .i64 t250, .string t251, .int .u64 t252, .bool t253, .bool t254])]) (fun s_ w' => (w'.cell? ⟨gb245, 0, none⟩ = some (.slice Ao13 x246000_1.length co13) ∧ w'.cell? (ad246.add ((x9_1).toNat * 7)) = some (.int .i64 ((rd_T38 l0 x9_1).f0)) ∧ w'.cell? ⟨(ad246.add ((x9_1).toNat * 7)).block, (ad246.add ((x9_1).toNat * 7)).off + 1, none⟩ = some (.int .u64 ((rd_T38 l0 x9_1).f1.f0)) ∧ w'.cell? ⟨(ad246.add ((x9_1).toNat * 7)).block, (ad246.add ((x9_1).toNat * 7)).off + 2, none⟩ = some (.int .u64 ((rd_T38 l0 x9_1).f1.f1)) ∧ w'.cell? ⟨(ad246.add ((x9_1).toNat * 7)).block, (ad246.add ((x9_1).toNat * 7)).off + 3, none⟩ = some (.string ((rd_T38 l0 x9_1).f2)) ∧ w'.cell? ⟨(ad246.add ((x9_1).toNat * 7)).block, (ad246.add ((x9_1).toNat * 7)).off + 4, none⟩ = some (.slice A246_4 ((rd_T38 l0 x9_1).f3).length c246_4) ∧ w'.cell? ⟨(ad246.add ((x9_1).toNat * 7)).block, (ad246.add ((x9_1).toNat * 7)).off + 5, none⟩ = some (.bool ((rd_T38 l0 x9_1).f4)) ∧ w'.cell? ⟨(ad246.add ((x9_1).toNat * 7)).block, (ad246.add ((x9_1).toNat * 7)).off + 6, none⟩ = some (.slice A246_6 ((rd_T38 l0 x9_1).f5).length c246_6)) ∧ (Kd.V k42 42 w' w.heap.size (fun k_ => k_ ≠ gb243 ∧ k_ ≠ gb245) s_ t247) ∧ (Kd.V k42 42 w' w.heap.size (fun k_ => k_ ≠ gb243 ∧ k_ ≠ gb245) (.slice Ao13 x246000_1.length co13) x246000_1) ∧ (w'.heap[gb243]? = some (.cells #[.int .u64 a1_0, .int .u64 a1_1] 34 (0, 0))) ∧ (w'.heap[gb245]? = some (.cells #[.slice Ao13 x246000_1.length co13] 26 (0, 0))) ∧ (Below w.heap.size w w')) ?_ ?_
         rotate_left
         ·intro hJ5
          refine join_ (σ := Nat) 7 bN11_ (fun s_ => [(10, .pointer (some ⟨s_, 0, none⟩))]) (fun s_ w' => (w'.cell? ⟨gb245, 0, none⟩ = some (.slice Ao13 x246000_1.length co13) ∧ w'.cell? (ad246.add ((x9_1).toNat * 7)) = some (.int .i64 ((rd_T38 l0 x9_1).f0)) ∧ w'.cell? ⟨(ad246.add ((x9_1).toNat * 7)).block, (ad246.add ((x9_1).toNat * 7)).off + 1, none⟩ = some (.int .u64 ((rd_T38 l0 x9_1).f1.f0)) ∧ w'.cell? ⟨(ad246.add ((x9_1).toNat * 7)).block, (ad246.add ((x9_1).toNat * 7)).off + 2, none⟩ = some (.int .u64 ((rd_T38 l0 x9_1).f1.f1)) ∧ w'.cell? ⟨(ad246.add ((x9_1).toNat * 7)).block, (ad246.add ((x9_1).toNat * 7)).off + 3, none⟩ = some (.string ((rd_T38 l0 x9_1).f2)) ∧ w'.cell? ⟨(ad246.add ((x9_1).toNat * 7)).block, (ad246.add ((x9_1).toNat * 7)).off + 4, none⟩ = some (.slice A246_4 ((rd_T38 l0 x9_1).f3).length c246_4) ∧ w'.cell? ⟨(ad246.add ((x9_1).toNat * 7)).block, (ad246.add ((x9_1).toNat * 7)).off + 5, none⟩ = some (.bool ((rd_T38 l0 x9_1).f4)) ∧ w'.cell? ⟨(ad246.add ((x9_1).toNat * 7)).block, (ad246.add ((x9_1).toNat * 7)).off + 6, none⟩ = some (.slice A246_6 ((rd_T38 l0 x9_1).f5).length c246_6)) ∧ (Kd.V k42 42 w' w.heap.size (fun k_ => k_ ≠ gb243 ∧ k_ ≠ gb245 ∧ k_ ≠ s_) (.slice Ao13 x246000_1.length co13) x246000_1) ∧ (w'.heap[gb243]? = some (.cells #[.int .u64 a1_0, .int .u64 a1_1] 34 (0, 0))) ∧ (w'.heap[gb245]? = some (.cells #[.slice Ao13 x246000_1.length co13] 26 (0, 0))) ∧ (w'.heap[s_]? = some (.cells #[.slice none 0 0] 26 (0, 0))) ∧ (w.heap.size ≤ s_) ∧ (w.heap.size ≤ s_) ∧ (gb243 ≠ s_) ∧ (s_ ≠ gb243) ∧ (gb245 ≠ s_) ∧ (s_ ≠ gb245) ∧ (Below w.heap.size w w')) ?_ ?_
          rotate_left
          ·intro hJ9
           refine join_ (σ := Nat) 7 bN12_ (fun s_ => [(11, .pointer (some ⟨s_, 0, none⟩))]) (fun s_ w' => (w'.cell? ⟨gb245, 0, none⟩ = some (.slice Ao13 x246000_1.length co13) ∧ w'.cell? (ad246.add ((x9_1).toNat * 7)) = some (.int .i64 ((rd_T38 l0 x9_1).f0)) ∧ w'.cell? ⟨(ad246.add ((x9_1).toNat * 7)).block, (ad246.add ((x9_1).toNat * 7)).off + 1, none⟩ = some (.int .u64 ((rd_T38 l0 x9_1).f1.f0)) ∧ w'.cell? ⟨(ad246.add ((x9_1).toNat * 7)).block, (ad246.add ((x9_1).toNat * 7)).off + 2, none⟩ = some (.int .u64 ((rd_T38 l0 x9_1).f1.f1)) ∧ w'.cell? ⟨(ad246.add ((x9_1).toNat * 7)).block, (ad246.add ((x9_1).toNat * 7)).off + 3, none⟩ = some (.string ((rd_T38 l0 x9_1).f2)) ∧ w'.cell? ⟨(ad246.add ((x9_1).toNat * 7)).block, (ad246.add ((x9_1).toNat * 7)).off + 4, none⟩ = some (.slice A246_4 ((rd_T38 l0 x9_1).f3).length c246_4) ∧ w'.cell? ⟨(ad246.add ((x9_1).toNat * 7)).block, (ad246.add ((x9_1).toNat * 7)).off + 5, none⟩ = some (.bool ((rd_T38 l0 x9_1).f4)) ∧ w'.cell? ⟨(ad246.add ((x9_1).toNat * 7)).block, (ad246.add ((x9_1).toNat * 7)).off + 6, none⟩ = some (.slice A246_6 ((rd_T38 l0 x9_1).f5).length c246_6)) ∧ (Kd.V k42 42 w' w.heap.size (fun k_ => k_ ≠ gb243 ∧ k_ ≠ gb245 ∧ k_ ≠ s_) (.slice Ao13 x246000_1.length co13) x246000_1) ∧ (w'.heap[gb243]? = some (.cells #[.int .u64 a1_0, .int .u64 a1_1] 34 (0, 0))) ∧ (w'.heap[gb245]? = some (.cells #[.slice Ao13 x246000_1.length co13] 26 (0, 0))) ∧ (w'.heap[s_]? = some (.cells #[.int .i64 0, .string (⟨#[]⟩ : ByteArray), .int .u64 0, .bool false, .bool false] 30 (0, 0))) ∧ (w.heap.size ≤ s_) ∧ (w.heap.size ≤ s_) ∧ (gb243 ≠ s_) ∧ (s_ ≠ gb243) ∧ (gb245 ≠ s_) ∧ (s_ ≠ gb245) ∧ (Below w.heap.size w w')) ?_ ?_
           rotate_left
           ·intro hJ10
            refine three_ (i := 5) (j := 9) (k := 10) (Ni := some 28) (Nj := some 10) (Nk := some 11) bN13_ bN11_ bN12_ rfl rfl rfl rfl rfl rfl (three_of HT_.out (by kernel_rfl)) (by decide) (by decide) (by decide) (fun K hK => ?_) (fun K hK => ?_) (fun K hK => ?_)
            ·skip
             refine goes_ Try.func9 (by kernel_rfl) rfl #[.agg #[.slice Ao13 x246000_1.length co13], .agg #[.int .i64 ((rd_T38 l0 x9_1).f0), .int .u64 ((rd_T38 l0 x9_1).f1.f0), .int .u64 ((rd_T38 l0 x9_1).f1.f1), .string ((rd_T38 l0 x9_1).f2), .slice A246_4 ((rd_T38 l0 x9_1).f3).length c246_4, .bool ((rd_T38 l0 x9_1).f4), .slice A246_6 ((rd_T38 l0 x9_1).f5).length c246_6]] (by rfl) rfl rfl (by (try simp only [List.map_toArray, List.map_cons, List.map_nil]); first | done | rfl | (simp only [List.length_drop, List.length_take]; rfl)) ?_
             with_reducible refine (coord_Do.calls k1 (fun k_ => (k_ ≠ gb243 ∧ k_ ≠ gb245)) _ _ x246000_1 ((rd_T38 l0 x9_1).f0) ((rd_T38 l0 x9_1).f1.f0) ((rd_T38 l0 x9_1).f1.f1) ((rd_T38 l0 x9_1).f2) _ _ ((rd_T38 l0 x9_1).f3) ((rd_T38 l0 x9_1).f4) _ _ ((rd_T38 l0 x9_1).f5) t247 t250 t251 t252 t253 t254 _ ?side1 ?side2 ?side3 ?side4 ?side5 A11.out).mono ?_
             (case side1 => exact HO_246000.out)
             (case side2 => repeat (first | exact (Kd.C_below HR246_4.out HB.out) | (with_reducible refine Kd.C_alloc ?_ _) | (with_reducible refine Kd.C_drewN ?_ _) | (with_reducible refine Kd.C_drew ?_)))
             (case side3 => exact HC246_4.out)
             (case side4 => repeat (first | exact (Kd.C_below HR246_6.out HB.out) | (with_reducible refine Kd.C_alloc ?_ _) | (with_reducible refine Kd.C_drewN ?_ _) | (with_reducible refine Kd.C_drew ?_)))
             (case side5 => exact HC246_6.out)
             rintro e w15 ⟨v248, rfl, ho0, hb⟩
             refine ⟨_, rfl, ?_⟩
             have n0_ := am_ (Kd.V_below (vx_ HO_246000) hb)
             have n1_ := am_ (Kd.V_lower (Kd.V_mono (ok' := fun k_ => k_ ≠ gb243 ∧ k_ ≠ gb245) ho0 (fun k_ hk_ => ⟨Or.elim hk_ (fun hs_ => hs_.1) (fun hn_ => (Kd.freshB (g := gb243) (o := .cells #[.int .u64 a1_0, .int .u64 a1_1] 34 (0, 0)) (bx_ BK243) k_ hn_)), Or.elim hk_ (fun hs_ => hs_.2) (fun hn_ => (Kd.freshB (g := gb245) (o := .cells #[.slice Ao13 x246000_1.length co13] 26 (0, 0)) (bx_ BK245) k_ hn_))⟩)) (below_size (hx_ HB)))
             have n2_ := am_ (blk_below (g := gb243) (o := .cells #[.int .u64 a1_0, .int .u64 a1_1] 34 (0, 0)) (bx_ BK243) hb)
             have n3_ := am_ (blk_below (g := gb245) (o := .cells #[.slice Ao13 x246000_1.length co13] 26 (0, 0)) (bx_ BK245) hb)
             have n4_ := am_ (below_step (hx_ HB) hb)
             clear HO_246000
             clear BK243
             clear BK245
             clear HB
             have HO_246000 := n0_
             have HO249 := n1_
             have BK243 := n2_
             have BK245 := n3_
             have HB := n4_
             clear n0_ n1_ n2_ n3_ n4_
             (try clear hb)
             (try clear hb2)
             (try clear hk)
             (try clear hi)
             (try clear ho0)
             refine hK.out _ _ ⟨(blk_cell BK245.out 0).trans rfl, ((HB.out.cell (World.block_lt_of_cell? w _ hw246_0)).trans hw246_0), ((HB.out.cell (World.block_lt_of_cell? w _ hw246_1)).trans hw246_1), ((HB.out.cell (World.block_lt_of_cell? w _ hw246_2)).trans hw246_2), ((HB.out.cell (World.block_lt_of_cell? w _ hw246_3)).trans hw246_3), ((HB.out.cell (World.block_lt_of_cell? w _ hw246_4)).trans hw246_4), ((HB.out.cell (World.block_lt_of_cell? w _ hw246_5)).trans hw246_5), ((HB.out.cell (World.block_lt_of_cell? w _ hw246_6)).trans hw246_6)⟩ (fun hHeld => ?_)
             clear hK K
             refine norm_ (a' := ?_) ?_ ?_
             rotate_left
             ·show Act.put _ (some 28) _ = _
              simp only [Act.put, List.setIfInBounds_toArray, List.set_cons_zero, List.set_cons_succ, i64_w, i32_w]
              rfl
             refine pure_ (i := 6) (N := some 22) (v := ?_) (a' := ?_) bN14_ rfl rfl (any_of HT_.out (by kernel_rfl)) (fun _ _ _ h => h) (Or.inl ⟨by rfl, ?_⟩) ?_ ?_; rotate_left; (intro w'; go_simp; with_reducible rfl); rotate_left; (simp only [Act.put, List.setIfInBounds_toArray, List.set_cons_zero, List.set_cons_succ, i64_w, i32_w]; rfl)
             refine pure_ (i := 7) (N := some 29) (v := ?_) (a' := ?_) bN15_ rfl rfl (any_of HT_.out (by kernel_rfl)) (fun _ _ _ h => h) (Or.inl ⟨by rfl, ?_⟩) ?_ ?_; rotate_left; (intro w'; go_simp; with_reducible rfl); rotate_left; (simp only [Act.put, List.setIfInBounds_toArray, List.set_cons_zero, List.set_cons_succ, i64_w, i32_w]; rfl)
             refine pure_ (i := 8) (N := some 30) (v := ?_) (a' := ?_) bN10_ rfl rfl (any_of HT_.out (by kernel_rfl)) (fun _ _ _ h => h) (Or.inl ⟨by rfl, ?_⟩) ?_ ?_; rotate_left; (intro w'; go_simp; with_reducible rfl); rotate_left; (simp only [Act.put, List.setIfInBounds_toArray, List.set_cons_zero, List.set_cons_succ, i64_w, i32_w]; rfl)
             exact norm_ (by first | (simp only [putAll, Act.put, List.setIfInBounds_toArray, List.set_cons_zero, List.set_cons_succ]; done) | (simp only [putAll, Act.put, List.setIfInBounds_toArray, List.set_cons_zero, List.set_cons_succ]; rfl)) (hJ5 (v248) _ ⟨hHeld, (vx_ HO249), (vx_ HO_246000), (bx_ BK243), (bx_ BK245), (hx_ HB)⟩)
            ·skip
             refine box_step ?hg (N := 10) ?hd (cs := #[.slice none 0 0]) (t := 26) ?hr ?_; (case hd => rfl); (case hg => rfl); (case hr => first | (go_simp; done) | (go_simp; rfl))
             intro gb255 hg w15 hbox hb
             have n0_ := am_ (Kd.V_below (Kd.V_elderB (vx_ HO_246000) gb255 (Nat.le_of_eq hg.symm)) hb)
             have n1_ := am_ (blk_below (g := gb243) (o := .cells #[.int .u64 a1_0, .int .u64 a1_1] 34 (0, 0)) (bx_ BK243) hb)
             have n2_ := am_ (blk_below (g := gb245) (o := .cells #[.slice Ao13 x246000_1.length co13] 26 (0, 0)) (bx_ BK245) hb)
             have n3_ := am_ (below_step (hx_ HB) hb)
             have n4_ := am_ (hbox)
             have n5_ := am_ ((by rw [hg]; exact (below_size (hx_ HB)) : w.heap.size ≤ gb255))
             have n6_ := am_ ((by rw [hg]; exact (below_size (hx_ HB)) : w.heap.size ≤ gb255))
             have n7_ := am_ ((by rw [hg]; exact Nat.ne_of_lt (blk_lt (g := gb243) (o := .cells #[.int .u64 a1_0, .int .u64 a1_1] 34 (0, 0)) (bx_ BK243)) : gb243 ≠ gb255))
             have n8_ := am_ ((by rw [hg]; exact Nat.ne_of_gt (blk_lt (g := gb243) (o := .cells #[.int .u64 a1_0, .int .u64 a1_1] 34 (0, 0)) (bx_ BK243)) : gb255 ≠ gb243))
             have n9_ := am_ ((by rw [hg]; exact Nat.ne_of_lt (blk_lt (g := gb245) (o := .cells #[.slice Ao13 x246000_1.length co13] 26 (0, 0)) (bx_ BK245)) : gb245 ≠ gb255))
             have n10_ := am_ ((by rw [hg]; exact Nat.ne_of_gt (blk_lt (g := gb245) (o := .cells #[.slice Ao13 x246000_1.length co13] 26 (0, 0)) (bx_ BK245)) : gb255 ≠ gb245))
             clear HO_246000
             clear BK243
             clear BK245
             clear HB
             have HO_246000 := n0_
             have BK243 := n1_
             have BK245 := n2_
             have HB := n3_
             have BK255 := n4_
             have GW255 := n5_
             have GE255 := n6_
             have NB243_255 := n7_
             have NB255_243 := n8_
             have NB245_255 := n9_
             have NB255_245 := n10_
             clear n0_ n1_ n2_ n3_ n4_ n5_ n6_ n7_ n8_ n9_ n10_
             clear hb hbox hg
             refine hK.out _ _ ⟨(blk_cell BK245.out 0).trans rfl, ((HB.out.cell (World.block_lt_of_cell? w _ hw246_0)).trans hw246_0), ((HB.out.cell (World.block_lt_of_cell? w _ hw246_1)).trans hw246_1), ((HB.out.cell (World.block_lt_of_cell? w _ hw246_2)).trans hw246_2), ((HB.out.cell (World.block_lt_of_cell? w _ hw246_3)).trans hw246_3), ((HB.out.cell (World.block_lt_of_cell? w _ hw246_4)).trans hw246_4), ((HB.out.cell (World.block_lt_of_cell? w _ hw246_5)).trans hw246_5), ((HB.out.cell (World.block_lt_of_cell? w _ hw246_6)).trans hw246_6)⟩ (fun hHeld => ?_)
             clear hK K
             refine norm_ (a' := ?_) ?_ ?_
             rotate_left
             ·show Act.put _ (some 10) _ = _
              simp only [Act.put, List.setIfInBounds_toArray, List.set_cons_zero, List.set_cons_succ, i64_w, i32_w]
              rfl
             exact norm_ (by first | (simp only [putAll, Act.put, List.setIfInBounds_toArray, List.set_cons_zero, List.set_cons_succ]; done) | (simp only [putAll, Act.put, List.setIfInBounds_toArray, List.set_cons_zero, List.set_cons_succ]; rfl)) (hJ9 (gb255) _ ⟨hHeld, (by (with_reducible repeat (first | apply Kd.V_alloc | apply Kd.V_drewN | apply Kd.V_drew)); exact Kd.V_mono HO_246000.out (fun _ hk => ⟨hk.1.1, ⟨hk.1.2, hk.2⟩⟩)), (bx_ BK243), (bx_ BK245), (bx_ BK255), GW255.out, GE255.out, NB243_255.out, NB255_243.out, NB245_255.out, NB255_245.out, (hx_ HB)⟩)
            ·skip
             refine box_step ?hg (N := 11) ?hd (cs := #[.int .i64 0, .string (⟨#[]⟩ : ByteArray), .int .u64 0, .bool false, .bool false]) (t := 30) ?hr ?_; (case hd => rfl); (case hg => rfl); (case hr => first | (go_simp; done) | (go_simp; rfl))
             intro gb256 hg w15 hbox hb
             have n0_ := am_ (Kd.V_below (Kd.V_elderB (vx_ HO_246000) gb256 (Nat.le_of_eq hg.symm)) hb)
             have n1_ := am_ (blk_below (g := gb243) (o := .cells #[.int .u64 a1_0, .int .u64 a1_1] 34 (0, 0)) (bx_ BK243) hb)
             have n2_ := am_ (blk_below (g := gb245) (o := .cells #[.slice Ao13 x246000_1.length co13] 26 (0, 0)) (bx_ BK245) hb)
             have n3_ := am_ (below_step (hx_ HB) hb)
             have n4_ := am_ (hbox)
             have n5_ := am_ ((by rw [hg]; exact (below_size (hx_ HB)) : w.heap.size ≤ gb256))
             have n6_ := am_ ((by rw [hg]; exact (below_size (hx_ HB)) : w.heap.size ≤ gb256))
             have n7_ := am_ ((by rw [hg]; exact Nat.ne_of_lt (blk_lt (g := gb243) (o := .cells #[.int .u64 a1_0, .int .u64 a1_1] 34 (0, 0)) (bx_ BK243)) : gb243 ≠ gb256))
             have n8_ := am_ ((by rw [hg]; exact Nat.ne_of_gt (blk_lt (g := gb243) (o := .cells #[.int .u64 a1_0, .int .u64 a1_1] 34 (0, 0)) (bx_ BK243)) : gb256 ≠ gb243))
             have n9_ := am_ ((by rw [hg]; exact Nat.ne_of_lt (blk_lt (g := gb245) (o := .cells #[.slice Ao13 x246000_1.length co13] 26 (0, 0)) (bx_ BK245)) : gb245 ≠ gb256))
             have n10_ := am_ ((by rw [hg]; exact Nat.ne_of_gt (blk_lt (g := gb245) (o := .cells #[.slice Ao13 x246000_1.length co13] 26 (0, 0)) (bx_ BK245)) : gb256 ≠ gb245))
             clear HO_246000
             clear BK243
             clear BK245
             clear HB
             have HO_246000 := n0_
             have BK243 := n1_
             have BK245 := n2_
             have HB := n3_
             have BK256 := n4_
             have GW256 := n5_
             have GE256 := n6_
             have NB243_256 := n7_
             have NB256_243 := n8_
             have NB245_256 := n9_
             have NB256_245 := n10_
             clear n0_ n1_ n2_ n3_ n4_ n5_ n6_ n7_ n8_ n9_ n10_
             clear hb hbox hg
             refine hK.out _ _ ⟨(blk_cell BK245.out 0).trans rfl, ((HB.out.cell (World.block_lt_of_cell? w _ hw246_0)).trans hw246_0), ((HB.out.cell (World.block_lt_of_cell? w _ hw246_1)).trans hw246_1), ((HB.out.cell (World.block_lt_of_cell? w _ hw246_2)).trans hw246_2), ((HB.out.cell (World.block_lt_of_cell? w _ hw246_3)).trans hw246_3), ((HB.out.cell (World.block_lt_of_cell? w _ hw246_4)).trans hw246_4), ((HB.out.cell (World.block_lt_of_cell? w _ hw246_5)).trans hw246_5), ((HB.out.cell (World.block_lt_of_cell? w _ hw246_6)).trans hw246_6)⟩ (fun hHeld => ?_)
             clear hK K
             refine norm_ (a' := ?_) ?_ ?_
             rotate_left
             ·show Act.put _ (some 11) _ = _
              simp only [Act.put, List.setIfInBounds_toArray, List.set_cons_zero, List.set_cons_succ, i64_w, i32_w]
              rfl
             exact norm_ (by first | (simp only [putAll, Act.put, List.setIfInBounds_toArray, List.set_cons_zero, List.set_cons_succ]; done) | (simp only [putAll, Act.put, List.setIfInBounds_toArray, List.set_cons_zero, List.set_cons_succ]; rfl)) (hJ10 (gb256) _ ⟨hHeld, (by (with_reducible repeat (first | apply Kd.V_alloc | apply Kd.V_drewN | apply Kd.V_drew)); exact Kd.V_mono HO_246000.out (fun _ hk => ⟨hk.1.1, ⟨hk.1.2, hk.2⟩⟩)), (bx_ BK243), (bx_ BK245), (bx_ BK256), GW256.out, GE256.out, NB243_256.out, NB256_243.out, NB245_256.out, NB256_245.out, (hx_ HB)⟩)
           ·skip
            rintro gb256 w16 ⟨hS_, h0_, h1_, h2_, h3_, h4_, h5_, h6_, h7_, h8_, h9_, h10_⟩
            have n0_ : Aside0 (Kd.V k42 42 w16 w.heap.size (fun k_ => k_ ≠ gb243 ∧ k_ ≠ gb245 ∧ k_ ≠ gb256) (.slice Ao13 x246000_1.length co13) x246000_1) := ⟨h0_⟩
            have n1_ : Aside0 (w16.heap[gb243]? = some (.cells #[.int .u64 a1_0, .int .u64 a1_1] 34 (0, 0))) := ⟨h1_⟩
            have n2_ : Aside0 (w16.heap[gb245]? = some (.cells #[.slice Ao13 x246000_1.length co13] 26 (0, 0))) := ⟨h2_⟩
            have n3_ : Aside0 (w16.heap[gb256]? = some (.cells #[.int .i64 0, .string (⟨#[]⟩ : ByteArray), .int .u64 0, .bool false, .bool false] 30 (0, 0))) := ⟨h3_⟩
            have n4_ : Aside0 (w.heap.size ≤ gb256) := ⟨h4_⟩
            have n5_ : Aside0 (w.heap.size ≤ gb256) := ⟨h5_⟩
            have n6_ : Aside0 (gb243 ≠ gb256) := ⟨h6_⟩
            have n7_ : Aside0 (gb256 ≠ gb243) := ⟨h7_⟩
            have n8_ : Aside0 (gb245 ≠ gb256) := ⟨h8_⟩
            have n9_ : Aside0 (gb256 ≠ gb245) := ⟨h9_⟩
            have n10_ : Aside0 (Below w.heap.size w w16) := ⟨h10_⟩
            clear HO_246000
            clear BK243
            clear BK245
            clear HB
            clear h0_ h1_ h2_ h3_ h4_ h5_ h6_ h7_ h8_ h9_ h10_
            have HO_246000 := n0_
            have BK243 := n1_
            have BK245 := n2_
            have BK256 := n3_
            have GW256 := n4_
            have GE256 := n5_
            have NB243_256 := n6_
            have NB256_243 := n7_
            have NB245_256 := n8_
            have NB256_245 := n9_
            have HB := n10_
            clear n0_ n1_ n2_ n3_ n4_ n5_ n6_ n7_ n8_ n9_ n10_
            have hHeld : w16.cell? ⟨gb245, 0, none⟩ = some (.slice Ao13 x246000_1.length co13) ∧ w16.cell? (ad246.add ((x9_1).toNat * 7)) = some (.int .i64 ((rd_T38 l0 x9_1).f0)) ∧ w16.cell? ⟨(ad246.add ((x9_1).toNat * 7)).block, (ad246.add ((x9_1).toNat * 7)).off + 1, none⟩ = some (.int .u64 ((rd_T38 l0 x9_1).f1.f0)) ∧ w16.cell? ⟨(ad246.add ((x9_1).toNat * 7)).block, (ad246.add ((x9_1).toNat * 7)).off + 2, none⟩ = some (.int .u64 ((rd_T38 l0 x9_1).f1.f1)) ∧ w16.cell? ⟨(ad246.add ((x9_1).toNat * 7)).block, (ad246.add ((x9_1).toNat * 7)).off + 3, none⟩ = some (.string ((rd_T38 l0 x9_1).f2)) ∧ w16.cell? ⟨(ad246.add ((x9_1).toNat * 7)).block, (ad246.add ((x9_1).toNat * 7)).off + 4, none⟩ = some (.slice A246_4 ((rd_T38 l0 x9_1).f3).length c246_4) ∧ w16.cell? ⟨(ad246.add ((x9_1).toNat * 7)).block, (ad246.add ((x9_1).toNat * 7)).off + 5, none⟩ = some (.bool ((rd_T38 l0 x9_1).f4)) ∧ w16.cell? ⟨(ad246.add ((x9_1).toNat * 7)).block, (ad246.add ((x9_1).toNat * 7)).off + 6, none⟩ = some (.slice A246_6 ((rd_T38 l0 x9_1).f5).length c246_6) := hS_
            refine norm_ (a' := ?_) ?_ ?_; rotate_left; (simp only [putAll, Act.put, List.setIfInBounds_toArray, List.set_cons_zero, List.set_cons_succ]; rfl)
            refine two_ (i := 5) (j := 9) (Ni := some 28) (Nj := some 10) bN16_ bN9_ rfl rfl rfl rfl (two_of HT_.out (by kernel_rfl)) (by decide) (by decide) (fun K hK => ?_) (fun K hK => ?_)
            ·skip
             refine goes_ Try.func9 (by kernel_rfl) rfl #[.agg #[.slice Ao13 x246000_1.length co13], .agg #[.int .i64 ((rd_T38 l0 x9_1).f0), .int .u64 ((rd_T38 l0 x9_1).f1.f0), .int .u64 ((rd_T38 l0 x9_1).f1.f1), .string ((rd_T38 l0 x9_1).f2), .slice A246_4 ((rd_T38 l0 x9_1).f3).length c246_4, .bool ((rd_T38 l0 x9_1).f4), .slice A246_6 ((rd_T38 l0 x9_1).f5).length c246_6]] (by rfl) rfl rfl (by (try simp only [List.map_toArray, List.map_cons, List.map_nil]); first | done | rfl | (simp only [List.length_drop, List.length_take]; rfl)) ?_
             with_reducible refine (coord_Do.calls k1 (fun k_ => (k_ ≠ gb243 ∧ (k_ ≠ gb245 ∧ k_ ≠ gb256))) _ _ x246000_1 ((rd_T38 l0 x9_1).f0) ((rd_T38 l0 x9_1).f1.f0) ((rd_T38 l0 x9_1).f1.f1) ((rd_T38 l0 x9_1).f2) _ _ ((rd_T38 l0 x9_1).f3) ((rd_T38 l0 x9_1).f4) _ _ ((rd_T38 l0 x9_1).f5) t247 t250 t251 t252 t253 t254 _ ?side1 ?side2 ?side3 ?side4 ?side5 A11.out).mono ?_
             (case side1 => exact HO_246000.out)
             (case side2 => repeat (first | exact (Kd.C_below HR246_4.out HB.out) | (with_reducible refine Kd.C_alloc ?_ _) | (with_reducible refine Kd.C_drewN ?_ _) | (with_reducible refine Kd.C_drew ?_)))
             (case side3 => exact HC246_4.out)
             (case side4 => repeat (first | exact (Kd.C_below HR246_6.out HB.out) | (with_reducible refine Kd.C_alloc ?_ _) | (with_reducible refine Kd.C_drewN ?_ _) | (with_reducible refine Kd.C_drew ?_)))
             (case side5 => exact HC246_6.out)
             rintro e w17 ⟨v248, rfl, ho0, hb⟩
             refine ⟨_, rfl, ?_⟩
             have n0_ := am_ (Kd.V_below (vx_ HO_246000) hb)
             have n1_ := am_ (Kd.V_lower (Kd.V_mono (ok' := fun k_ => k_ ≠ gb243 ∧ k_ ≠ gb245 ∧ k_ ≠ gb256) ho0 (fun k_ hk_ => ⟨Or.elim hk_ (fun hs_ => hs_.1) (fun hn_ => (Kd.freshB (g := gb243) (o := .cells #[.int .u64 a1_0, .int .u64 a1_1] 34 (0, 0)) (bx_ BK243) k_ hn_)), Or.elim hk_ (fun hs_ => hs_.2.1) (fun hn_ => (Kd.freshB (g := gb245) (o := .cells #[.slice Ao13 x246000_1.length co13] 26 (0, 0)) (bx_ BK245) k_ hn_)), Or.elim hk_ (fun hs_ => hs_.2.2) (fun hn_ => (Kd.freshB (g := gb256) (o := .cells #[.int .i64 0, .string (⟨#[]⟩ : ByteArray), .int .u64 0, .bool false, .bool false] 30 (0, 0)) (bx_ BK256) k_ hn_))⟩)) (below_size (hx_ HB)))
             have n2_ := am_ (blk_below (g := gb243) (o := .cells #[.int .u64 a1_0, .int .u64 a1_1] 34 (0, 0)) (bx_ BK243) hb)
             have n3_ := am_ (blk_below (g := gb245) (o := .cells #[.slice Ao13 x246000_1.length co13] 26 (0, 0)) (bx_ BK245) hb)
             have n4_ := am_ (blk_below (g := gb256) (o := .cells #[.int .i64 0, .string (⟨#[]⟩ : ByteArray), .int .u64 0, .bool false, .bool false] 30 (0, 0)) (bx_ BK256) hb)
             have n5_ := am_ (below_step (hx_ HB) hb)
             clear HO_246000
             clear BK243
             clear BK245
             clear BK256
             clear HB
             have HO_246000 := n0_
             have HO249 := n1_
             have BK243 := n2_
             have BK245 := n3_
             have BK256 := n4_
             have HB := n5_
             clear n0_ n1_ n2_ n3_ n4_ n5_
             (try clear hb)
             (try clear hb2)
             (try clear hk)
             (try clear hi)
             (try clear ho0)
             refine hK.out _ _ ⟨(blk_cell BK245.out 0).trans rfl, ((HB.out.cell (World.block_lt_of_cell? w _ hw246_0)).trans hw246_0), ((HB.out.cell (World.block_lt_of_cell? w _ hw246_1)).trans hw246_1), ((HB.out.cell (World.block_lt_of_cell? w _ hw246_2)).trans hw246_2), ((HB.out.cell (World.block_lt_of_cell? w _ hw246_3)).trans hw246_3), ((HB.out.cell (World.block_lt_of_cell? w _ hw246_4)).trans hw246_4), ((HB.out.cell (World.block_lt_of_cell? w _ hw246_5)).trans hw246_5), ((HB.out.cell (World.block_lt_of_cell? w _ hw246_6)).trans hw246_6)⟩ (fun hHeld => ?_)
             clear hK K
             refine norm_ (a' := ?_) ?_ ?_
             rotate_left
             ·show Act.put _ (some 28) _ = _
              simp only [Act.put, List.setIfInBounds_toArray, List.set_cons_zero, List.set_cons_succ, i64_w, i32_w]
              rfl
             refine pure_ (i := 6) (N := some 22) (v := ?_) (a' := ?_) bN17_ rfl rfl (any_of HT_.out (by kernel_rfl)) (fun _ _ _ h => h) (Or.inl ⟨by rfl, ?_⟩) ?_ ?_; rotate_left; (intro w'; go_simp; with_reducible rfl); rotate_left; (simp only [Act.put, List.setIfInBounds_toArray, List.set_cons_zero, List.set_cons_succ, i64_w, i32_w]; rfl)
             refine pure_ (i := 7) (N := some 29) (v := ?_) (a' := ?_) bN18_ rfl rfl (any_of HT_.out (by kernel_rfl)) (fun _ _ _ h => h) (Or.inl ⟨by rfl, ?_⟩) ?_ ?_; rotate_left; (intro w'; go_simp; with_reducible rfl); rotate_left; (simp only [Act.put, List.setIfInBounds_toArray, List.set_cons_zero, List.set_cons_succ, i64_w, i32_w]; rfl)
             refine pure_ (i := 8) (N := some 30) (v := ?_) (a' := ?_) bN8_ rfl rfl (any_of HT_.out (by kernel_rfl)) (fun _ _ _ h => h) (Or.inl ⟨by rfl, ?_⟩) ?_ ?_; rotate_left; (intro w'; go_simp; with_reducible rfl); rotate_left; (simp only [Act.put, List.setIfInBounds_toArray, List.set_cons_zero, List.set_cons_succ, i64_w, i32_w]; rfl)
             exact norm_ (by first | (simp only [putAll, Act.put, List.setIfInBounds_toArray, List.set_cons_zero, List.set_cons_succ]; done) | (simp only [putAll, Act.put, List.setIfInBounds_toArray, List.set_cons_zero, List.set_cons_succ]; rfl)) (hJ5_10 (v248, gb256) _ ⟨hHeld, (vx_ HO249), (vx_ HO_246000), (bx_ BK243), (bx_ BK245), (bx_ BK256), GW256.out, GE256.out, NB243_256.out, NB256_243.out, NB245_256.out, NB256_245.out, (hx_ HB)⟩)
            ·skip
             refine box_step ?hg (N := 10) ?hd (cs := #[.slice none 0 0]) (t := 26) ?hr ?_; (case hd => rfl); (case hg => rfl); (case hr => first | (go_simp; done) | (go_simp; rfl))
             intro gb255 hg w17 hbox hb
             have n0_ := am_ (Kd.V_below (Kd.V_elderB (vx_ HO_246000) gb255 (Nat.le_of_eq hg.symm)) hb)
             have n1_ := am_ (blk_below (g := gb243) (o := .cells #[.int .u64 a1_0, .int .u64 a1_1] 34 (0, 0)) (bx_ BK243) hb)
             have n2_ := am_ (blk_below (g := gb245) (o := .cells #[.slice Ao13 x246000_1.length co13] 26 (0, 0)) (bx_ BK245) hb)
             have n3_ := am_ (blk_below (g := gb256) (o := .cells #[.int .i64 0, .string (⟨#[]⟩ : ByteArray), .int .u64 0, .bool false, .bool false] 30 (0, 0)) (bx_ BK256) hb)
             have n4_ := am_ (below_step (hx_ HB) hb)
             have n5_ := am_ (hbox)
             have n6_ := am_ ((by rw [hg]; exact (below_size (hx_ HB)) : w.heap.size ≤ gb255))
             have n7_ := am_ ((by rw [hg]; exact (below_size (hx_ HB)) : w.heap.size ≤ gb255))
             have n8_ := am_ ((by rw [hg]; exact Nat.ne_of_lt (blk_lt (g := gb243) (o := .cells #[.int .u64 a1_0, .int .u64 a1_1] 34 (0, 0)) (bx_ BK243)) : gb243 ≠ gb255))
             have n9_ := am_ ((by rw [hg]; exact Nat.ne_of_gt (blk_lt (g := gb243) (o := .cells #[.int .u64 a1_0, .int .u64 a1_1] 34 (0, 0)) (bx_ BK243)) : gb255 ≠ gb243))
             have n10_ := am_ ((by rw [hg]; exact Nat.ne_of_lt (blk_lt (g := gb245) (o := .cells #[.slice Ao13 x246000_1.length co13] 26 (0, 0)) (bx_ BK245)) : gb245 ≠ gb255))
             have n11_ := am_ ((by rw [hg]; exact Nat.ne_of_gt (blk_lt (g := gb245) (o := .cells #[.slice Ao13 x246000_1.length co13] 26 (0, 0)) (bx_ BK245)) : gb255 ≠ gb245))
             have n12_ := am_ ((by rw [hg]; exact Nat.ne_of_lt (blk_lt (g := gb256) (o := .cells #[.int .i64 0, .string (⟨#[]⟩ : ByteArray), .int .u64 0, .bool false, .bool false] 30 (0, 0)) (bx_ BK256)) : gb256 ≠ gb255))
             have n13_ := am_ ((by rw [hg]; exact Nat.ne_of_gt (blk_lt (g := gb256) (o := .cells #[.int .i64 0, .string (⟨#[]⟩ : ByteArray), .int .u64 0, .bool false, .bool false] 30 (0, 0)) (bx_ BK256)) : gb255 ≠ gb256))
             clear HO_246000
             clear BK243
             clear BK245
             clear BK256
             clear HB
             have HO_246000 := n0_
             have BK243 := n1_
             have BK245 := n2_
             have BK256 := n3_
             have HB := n4_
             have BK255 := n5_
             have GW255 := n6_
             have GE255 := n7_
             have NB243_255 := n8_
             have NB255_243 := n9_
             have NB245_255 := n10_
             have NB255_245 := n11_
             have NB256_255 := n12_
             have NB255_256 := n13_
             clear n0_ n1_ n2_ n3_ n4_ n5_ n6_ n7_ n8_ n9_ n10_ n11_ n12_ n13_
             clear hb hbox hg
             refine hK.out _ _ ⟨(blk_cell BK245.out 0).trans rfl, ((HB.out.cell (World.block_lt_of_cell? w _ hw246_0)).trans hw246_0), ((HB.out.cell (World.block_lt_of_cell? w _ hw246_1)).trans hw246_1), ((HB.out.cell (World.block_lt_of_cell? w _ hw246_2)).trans hw246_2), ((HB.out.cell (World.block_lt_of_cell? w _ hw246_3)).trans hw246_3), ((HB.out.cell (World.block_lt_of_cell? w _ hw246_4)).trans hw246_4), ((HB.out.cell (World.block_lt_of_cell? w _ hw246_5)).trans hw246_5), ((HB.out.cell (World.block_lt_of_cell? w _ hw246_6)).trans hw246_6)⟩ (fun hHeld => ?_)
             clear hK K
             refine norm_ (a' := ?_) ?_ ?_
             rotate_left
             ·show Act.put _ (some 10) _ = _
              simp only [Act.put, List.setIfInBounds_toArray, List.set_cons_zero, List.set_cons_succ, i64_w, i32_w]
              rfl
             exact norm_ (by first | (simp only [putAll, Act.put, List.setIfInBounds_toArray, List.set_cons_zero, List.set_cons_succ]; done) | (simp only [putAll, Act.put, List.setIfInBounds_toArray, List.set_cons_zero, List.set_cons_succ]; rfl)) (hJ9_10 (gb255, gb256) _ ⟨hHeld, (by (with_reducible repeat (first | apply Kd.V_alloc | apply Kd.V_drewN | apply Kd.V_drew)); exact Kd.V_mono HO_246000.out (fun _ hk => ⟨hk.1.1, ⟨hk.1.2.1, ⟨hk.2, hk.1.2.2⟩⟩⟩)), (bx_ BK243), (bx_ BK245), (bx_ BK255), (bx_ BK256), GW255.out, GE255.out, NB243_255.out, NB255_243.out, NB245_255.out, NB255_245.out, NB256_255.out, NB255_256.out, GW256.out, GE256.out, NB243_256.out, NB256_243.out, NB245_256.out, NB256_245.out, (hx_ HB)⟩)
          ·skip
           rintro gb255 w16 ⟨hS_, h0_, h1_, h2_, h3_, h4_, h5_, h6_, h7_, h8_, h9_, h10_⟩
           have n0_ : Aside0 (Kd.V k42 42 w16 w.heap.size (fun k_ => k_ ≠ gb243 ∧ k_ ≠ gb245 ∧ k_ ≠ gb255) (.slice Ao13 x246000_1.length co13) x246000_1) := ⟨h0_⟩
           have n1_ : Aside0 (w16.heap[gb243]? = some (.cells #[.int .u64 a1_0, .int .u64 a1_1] 34 (0, 0))) := ⟨h1_⟩
           have n2_ : Aside0 (w16.heap[gb245]? = some (.cells #[.slice Ao13 x246000_1.length co13] 26 (0, 0))) := ⟨h2_⟩
           have n3_ : Aside0 (w16.heap[gb255]? = some (.cells #[.slice none 0 0] 26 (0, 0))) := ⟨h3_⟩
           have n4_ : Aside0 (w.heap.size ≤ gb255) := ⟨h4_⟩
           have n5_ : Aside0 (w.heap.size ≤ gb255) := ⟨h5_⟩
           have n6_ : Aside0 (gb243 ≠ gb255) := ⟨h6_⟩
           have n7_ : Aside0 (gb255 ≠ gb243) := ⟨h7_⟩
           have n8_ : Aside0 (gb245 ≠ gb255) := ⟨h8_⟩
           have n9_ : Aside0 (gb255 ≠ gb245) := ⟨h9_⟩
           have n10_ : Aside0 (Below w.heap.size w w16) := ⟨h10_⟩
           clear HO_246000
           clear BK243
           clear BK245
           clear HB
           clear h0_ h1_ h2_ h3_ h4_ h5_ h6_ h7_ h8_ h9_ h10_
           have HO_246000 := n0_
           have BK243 := n1_
           have BK245 := n2_
           have BK255 := n3_
           have GW255 := n4_
           have GE255 := n5_
           have NB243_255 := n6_
           have NB255_243 := n7_
           have NB245_255 := n8_
           have NB255_245 := n9_
           have HB := n10_
           clear n0_ n1_ n2_ n3_ n4_ n5_ n6_ n7_ n8_ n9_ n10_
           have hHeld : w16.cell? ⟨gb245, 0, none⟩ = some (.slice Ao13 x246000_1.length co13) ∧ w16.cell? (ad246.add ((x9_1).toNat * 7)) = some (.int .i64 ((rd_T38 l0 x9_1).f0)) ∧ w16.cell? ⟨(ad246.add ((x9_1).toNat * 7)).block, (ad246.add ((x9_1).toNat * 7)).off + 1, none⟩ = some (.int .u64 ((rd_T38 l0 x9_1).f1.f0)) ∧ w16.cell? ⟨(ad246.add ((x9_1).toNat * 7)).block, (ad246.add ((x9_1).toNat * 7)).off + 2, none⟩ = some (.int .u64 ((rd_T38 l0 x9_1).f1.f1)) ∧ w16.cell? ⟨(ad246.add ((x9_1).toNat * 7)).block, (ad246.add ((x9_1).toNat * 7)).off + 3, none⟩ = some (.string ((rd_T38 l0 x9_1).f2)) ∧ w16.cell? ⟨(ad246.add ((x9_1).toNat * 7)).block, (ad246.add ((x9_1).toNat * 7)).off + 4, none⟩ = some (.slice A246_4 ((rd_T38 l0 x9_1).f3).length c246_4) ∧ w16.cell? ⟨(ad246.add ((x9_1).toNat * 7)).block, (ad246.add ((x9_1).toNat * 7)).off + 5, none⟩ = some (.bool ((rd_T38 l0 x9_1).f4)) ∧ w16.cell? ⟨(ad246.add ((x9_1).toNat * 7)).block, (ad246.add ((x9_1).toNat * 7)).off + 6, none⟩ = some (.slice A246_6 ((rd_T38 l0 x9_1).f5).length c246_6) := hS_
           refine norm_ (a' := ?_) ?_ ?_; rotate_left; (simp only [putAll, Act.put, List.setIfInBounds_toArray, List.set_cons_zero, List.set_cons_succ]; rfl)
           refine two_ (i := 5) (j := 10) (Ni := some 28) (Nj := some 11) bN19_ bN9_ rfl rfl rfl rfl (two_of HT_.out (by kernel_rfl)) (by decide) (by decide) (fun K hK => ?_) (fun K hK => ?_)
           ·skip
            refine goes_ Try.func9 (by kernel_rfl) rfl #[.agg #[.slice Ao13 x246000_1.length co13], .agg #[.int .i64 ((rd_T38 l0 x9_1).f0), .int .u64 ((rd_T38 l0 x9_1).f1.f0), .int .u64 ((rd_T38 l0 x9_1).f1.f1), .string ((rd_T38 l0 x9_1).f2), .slice A246_4 ((rd_T38 l0 x9_1).f3).length c246_4, .bool ((rd_T38 l0 x9_1).f4), .slice A246_6 ((rd_T38 l0 x9_1).f5).length c246_6]] (by rfl) rfl rfl (by (try simp only [List.map_toArray, List.map_cons, List.map_nil]); first | done | rfl | (simp only [List.length_drop, List.length_take]; rfl)) ?_
            with_reducible refine (coord_Do.calls k1 (fun k_ => (k_ ≠ gb243 ∧ (k_ ≠ gb245 ∧ k_ ≠ gb255))) _ _ x246000_1 ((rd_T38 l0 x9_1).f0) ((rd_T38 l0 x9_1).f1.f0) ((rd_T38 l0 x9_1).f1.f1) ((rd_T38 l0 x9_1).f2) _ _ ((rd_T38 l0 x9_1).f3) ((rd_T38 l0 x9_1).f4) _ _ ((rd_T38 l0 x9_1).f5) t247 t250 t251 t252 t253 t254 _ ?side1 ?side2 ?side3 ?side4 ?side5 A11.out).mono ?_
            (case side1 => exact HO_246000.out)
            (case side2 => repeat (first | exact (Kd.C_below HR246_4.out HB.out) | (with_reducible refine Kd.C_alloc ?_ _) | (with_reducible refine Kd.C_drewN ?_ _) | (with_reducible refine Kd.C_drew ?_)))
            (case side3 => exact HC246_4.out)
            (case side4 => repeat (first | exact (Kd.C_below HR246_6.out HB.out) | (with_reducible refine Kd.C_alloc ?_ _) | (with_reducible refine Kd.C_drewN ?_ _) | (with_reducible refine Kd.C_drew ?_)))
            (case side5 => exact HC246_6.out)
            rintro e w17 ⟨v248, rfl, ho0, hb⟩
            refine ⟨_, rfl, ?_⟩
            have n0_ := am_ (Kd.V_below (vx_ HO_246000) hb)
            have n1_ := am_ (Kd.V_lower (Kd.V_mono (ok' := fun k_ => k_ ≠ gb243 ∧ k_ ≠ gb245 ∧ k_ ≠ gb255) ho0 (fun k_ hk_ => ⟨Or.elim hk_ (fun hs_ => hs_.1) (fun hn_ => (Kd.freshB (g := gb243) (o := .cells #[.int .u64 a1_0, .int .u64 a1_1] 34 (0, 0)) (bx_ BK243) k_ hn_)), Or.elim hk_ (fun hs_ => hs_.2.1) (fun hn_ => (Kd.freshB (g := gb245) (o := .cells #[.slice Ao13 x246000_1.length co13] 26 (0, 0)) (bx_ BK245) k_ hn_)), Or.elim hk_ (fun hs_ => hs_.2.2) (fun hn_ => (Kd.freshB (g := gb255) (o := .cells #[.slice none 0 0] 26 (0, 0)) (bx_ BK255) k_ hn_))⟩)) (below_size (hx_ HB)))
            have n2_ := am_ (blk_below (g := gb243) (o := .cells #[.int .u64 a1_0, .int .u64 a1_1] 34 (0, 0)) (bx_ BK243) hb)
            have n3_ := am_ (blk_below (g := gb245) (o := .cells #[.slice Ao13 x246000_1.length co13] 26 (0, 0)) (bx_ BK245) hb)
            have n4_ := am_ (blk_below (g := gb255) (o := .cells #[.slice none 0 0] 26 (0, 0)) (bx_ BK255) hb)
            have n5_ := am_ (below_step (hx_ HB) hb)
            clear HO_246000
            clear BK243
            clear BK245
            clear BK255
            clear HB
            have HO_246000 := n0_
            have HO249 := n1_
            have BK243 := n2_
            have BK245 := n3_
            have BK255 := n4_
            have HB := n5_
            clear n0_ n1_ n2_ n3_ n4_ n5_
            (try clear hb)
            (try clear hb2)
            (try clear hk)
            (try clear hi)
            (try clear ho0)
            refine hK.out _ _ ⟨(blk_cell BK245.out 0).trans rfl, ((HB.out.cell (World.block_lt_of_cell? w _ hw246_0)).trans hw246_0), ((HB.out.cell (World.block_lt_of_cell? w _ hw246_1)).trans hw246_1), ((HB.out.cell (World.block_lt_of_cell? w _ hw246_2)).trans hw246_2), ((HB.out.cell (World.block_lt_of_cell? w _ hw246_3)).trans hw246_3), ((HB.out.cell (World.block_lt_of_cell? w _ hw246_4)).trans hw246_4), ((HB.out.cell (World.block_lt_of_cell? w _ hw246_5)).trans hw246_5), ((HB.out.cell (World.block_lt_of_cell? w _ hw246_6)).trans hw246_6)⟩ (fun hHeld => ?_)
            clear hK K
            refine norm_ (a' := ?_) ?_ ?_
            rotate_left
            ·show Act.put _ (some 28) _ = _
             simp only [Act.put, List.setIfInBounds_toArray, List.set_cons_zero, List.set_cons_succ, i64_w, i32_w]
             rfl
            refine pure_ (i := 6) (N := some 22) (v := ?_) (a' := ?_) bN20_ rfl rfl (any_of HT_.out (by kernel_rfl)) (fun _ _ _ h => h) (Or.inl ⟨by rfl, ?_⟩) ?_ ?_; rotate_left; (intro w'; go_simp; with_reducible rfl); rotate_left; (simp only [Act.put, List.setIfInBounds_toArray, List.set_cons_zero, List.set_cons_succ, i64_w, i32_w]; rfl)
            refine pure_ (i := 7) (N := some 29) (v := ?_) (a' := ?_) bN21_ rfl rfl (any_of HT_.out (by kernel_rfl)) (fun _ _ _ h => h) (Or.inl ⟨by rfl, ?_⟩) ?_ ?_; rotate_left; (intro w'; go_simp; with_reducible rfl); rotate_left; (simp only [Act.put, List.setIfInBounds_toArray, List.set_cons_zero, List.set_cons_succ, i64_w, i32_w]; rfl)
            refine pure_ (i := 8) (N := some 30) (v := ?_) (a' := ?_) bN7_ rfl rfl (any_of HT_.out (by kernel_rfl)) (fun _ _ _ h => h) (Or.inl ⟨by rfl, ?_⟩) ?_ ?_; rotate_left; (intro w'; go_simp; with_reducible rfl); rotate_left; (simp only [Act.put, List.setIfInBounds_toArray, List.set_cons_zero, List.set_cons_succ, i64_w, i32_w]; rfl)
            exact norm_ (by first | (simp only [putAll, Act.put, List.setIfInBounds_toArray, List.set_cons_zero, List.set_cons_succ]; done) | (simp only [putAll, Act.put, List.setIfInBounds_toArray, List.set_cons_zero, List.set_cons_succ]; rfl)) (hJ5_9 (v248, gb255) _ ⟨hHeld, (vx_ HO249), (vx_ HO_246000), (bx_ BK243), (bx_ BK245), (bx_ BK255), GW255.out, GE255.out, NB243_255.out, NB255_243.out, NB245_255.out, NB255_245.out, (hx_ HB)⟩)
           ·skip
            refine box_step ?hg (N := 11) ?hd (cs := #[.int .i64 0, .string (⟨#[]⟩ : ByteArray), .int .u64 0, .bool false, .bool false]) (t := 30) ?hr ?_; (case hd => rfl); (case hg => rfl); (case hr => first | (go_simp; done) | (go_simp; rfl))
            intro gb256 hg w17 hbox hb
            have n0_ := am_ (Kd.V_below (Kd.V_elderB (vx_ HO_246000) gb256 (Nat.le_of_eq hg.symm)) hb)
            have n1_ := am_ (blk_below (g := gb243) (o := .cells #[.int .u64 a1_0, .int .u64 a1_1] 34 (0, 0)) (bx_ BK243) hb)
            have n2_ := am_ (blk_below (g := gb245) (o := .cells #[.slice Ao13 x246000_1.length co13] 26 (0, 0)) (bx_ BK245) hb)
            have n3_ := am_ (blk_below (g := gb255) (o := .cells #[.slice none 0 0] 26 (0, 0)) (bx_ BK255) hb)
            have n4_ := am_ (below_step (hx_ HB) hb)
            have n5_ := am_ (hbox)
            have n6_ := am_ ((by rw [hg]; exact (below_size (hx_ HB)) : w.heap.size ≤ gb256))
            have n7_ := am_ ((by rw [hg]; exact (below_size (hx_ HB)) : w.heap.size ≤ gb256))
            have n8_ := am_ ((by rw [hg]; exact Nat.ne_of_lt (blk_lt (g := gb243) (o := .cells #[.int .u64 a1_0, .int .u64 a1_1] 34 (0, 0)) (bx_ BK243)) : gb243 ≠ gb256))
            have n9_ := am_ ((by rw [hg]; exact Nat.ne_of_gt (blk_lt (g := gb243) (o := .cells #[.int .u64 a1_0, .int .u64 a1_1] 34 (0, 0)) (bx_ BK243)) : gb256 ≠ gb243))
            have n10_ := am_ ((by rw [hg]; exact Nat.ne_of_lt (blk_lt (g := gb245) (o := .cells #[.slice Ao13 x246000_1.length co13] 26 (0, 0)) (bx_ BK245)) : gb245 ≠ gb256))
            have n11_ := am_ ((by rw [hg]; exact Nat.ne_of_gt (blk_lt (g := gb245) (o := .cells #[.slice Ao13 x246000_1.length co13] 26 (0, 0)) (bx_ BK245)) : gb256 ≠ gb245))
            have n12_ := am_ ((by rw [hg]; exact Nat.ne_of_lt (blk_lt (g := gb255) (o := .cells #[.slice none 0 0] 26 (0, 0)) (bx_ BK255)) : gb255 ≠ gb256))
            have n13_ := am_ ((by rw [hg]; exact Nat.ne_of_gt (blk_lt (g := gb255) (o := .cells #[.slice none 0 0] 26 (0, 0)) (bx_ BK255)) : gb256 ≠ gb255))
            clear HO_246000
            clear BK243
            clear BK245
            clear BK255
            clear HB
            have HO_246000 := n0_
            have BK243 := n1_
            have BK245 := n2_
            have BK255 := n3_
            have HB := n4_
            have BK256 := n5_
            have GW256 := n6_
            have GE256 := n7_
            have NB243_256 := n8_
            have NB256_243 := n9_
            have NB245_256 := n10_
            have NB256_245 := n11_
            have NB255_256 := n12_
            have NB256_255 := n13_
            clear n0_ n1_ n2_ n3_ n4_ n5_ n6_ n7_ n8_ n9_ n10_ n11_ n12_ n13_
            clear hb hbox hg
            refine hK.out _ _ ⟨(blk_cell BK245.out 0).trans rfl, ((HB.out.cell (World.block_lt_of_cell? w _ hw246_0)).trans hw246_0), ((HB.out.cell (World.block_lt_of_cell? w _ hw246_1)).trans hw246_1), ((HB.out.cell (World.block_lt_of_cell? w _ hw246_2)).trans hw246_2), ((HB.out.cell (World.block_lt_of_cell? w _ hw246_3)).trans hw246_3), ((HB.out.cell (World.block_lt_of_cell? w _ hw246_4)).trans hw246_4), ((HB.out.cell (World.block_lt_of_cell? w _ hw246_5)).trans hw246_5), ((HB.out.cell (World.block_lt_of_cell? w _ hw246_6)).trans hw246_6)⟩ (fun hHeld => ?_)
            clear hK K
            refine norm_ (a' := ?_) ?_ ?_
            rotate_left
            ·show Act.put _ (some 11) _ = _
             simp only [Act.put, List.setIfInBounds_toArray, List.set_cons_zero, List.set_cons_succ, i64_w, i32_w]
             rfl
            exact norm_ (by first | (simp only [putAll, Act.put, List.setIfInBounds_toArray, List.set_cons_zero, List.set_cons_succ]; done) | (simp only [putAll, Act.put, List.setIfInBounds_toArray, List.set_cons_zero, List.set_cons_succ]; rfl)) (hJ9_10 (gb255, gb256) _ ⟨hHeld, (by (with_reducible repeat (first | apply Kd.V_alloc | apply Kd.V_drewN | apply Kd.V_drew)); exact Kd.V_mono HO_246000.out (fun _ hk => ⟨hk.1.1, ⟨hk.1.2.1, ⟨hk.1.2.2, hk.2⟩⟩⟩)), (bx_ BK243), (bx_ BK245), (bx_ BK255), (bx_ BK256), GW255.out, GE255.out, NB243_255.out, NB255_243.out, NB245_255.out, NB255_245.out, NB256_255.out, NB255_256.out, GW256.out, GE256.out, NB243_256.out, NB256_243.out, NB245_256.out, NB256_245.out, (hx_ HB)⟩)
         ·skip
          rintro v248 w16 ⟨hS_, h0_, h1_, h2_, h3_, h4_⟩
          have n0_ : Aside0 (Kd.V k42 42 w16 w.heap.size (fun k_ => k_ ≠ gb243 ∧ k_ ≠ gb245) v248 t247) := ⟨h0_⟩
          have n1_ : Aside0 (Kd.V k42 42 w16 w.heap.size (fun k_ => k_ ≠ gb243 ∧ k_ ≠ gb245) (.slice Ao13 x246000_1.length co13) x246000_1) := ⟨h1_⟩
          have n2_ : Aside0 (w16.heap[gb243]? = some (.cells #[.int .u64 a1_0, .int .u64 a1_1] 34 (0, 0))) := ⟨h2_⟩
          have n3_ : Aside0 (w16.heap[gb245]? = some (.cells #[.slice Ao13 x246000_1.length co13] 26 (0, 0))) := ⟨h3_⟩
          have n4_ : Aside0 (Below w.heap.size w w16) := ⟨h4_⟩
          clear HO_246000
          clear BK243
          clear BK245
          clear HB
          clear h0_ h1_ h2_ h3_ h4_
          have HO249 := n0_
          have HO_246000 := n1_
          have BK243 := n2_
          have BK245 := n3_
          have HB := n4_
          clear n0_ n1_ n2_ n3_ n4_
          have hHeld : w16.cell? ⟨gb245, 0, none⟩ = some (.slice Ao13 x246000_1.length co13) ∧ w16.cell? (ad246.add ((x9_1).toNat * 7)) = some (.int .i64 ((rd_T38 l0 x9_1).f0)) ∧ w16.cell? ⟨(ad246.add ((x9_1).toNat * 7)).block, (ad246.add ((x9_1).toNat * 7)).off + 1, none⟩ = some (.int .u64 ((rd_T38 l0 x9_1).f1.f0)) ∧ w16.cell? ⟨(ad246.add ((x9_1).toNat * 7)).block, (ad246.add ((x9_1).toNat * 7)).off + 2, none⟩ = some (.int .u64 ((rd_T38 l0 x9_1).f1.f1)) ∧ w16.cell? ⟨(ad246.add ((x9_1).toNat * 7)).block, (ad246.add ((x9_1).toNat * 7)).off + 3, none⟩ = some (.string ((rd_T38 l0 x9_1).f2)) ∧ w16.cell? ⟨(ad246.add ((x9_1).toNat * 7)).block, (ad246.add ((x9_1).toNat * 7)).off + 4, none⟩ = some (.slice A246_4 ((rd_T38 l0 x9_1).f3).length c246_4) ∧ w16.cell? ⟨(ad246.add ((x9_1).toNat * 7)).block, (ad246.add ((x9_1).toNat * 7)).off + 5, none⟩ = some (.bool ((rd_T38 l0 x9_1).f4)) ∧ w16.cell? ⟨(ad246.add ((x9_1).toNat * 7)).block, (ad246.add ((x9_1).toNat * 7)).off + 6, none⟩ = some (.slice A246_6 ((rd_T38 l0 x9_1).f5).length c246_6) := hS_
          refine norm_ (a' := ?_) ?_ ?_; rotate_left; (simp only [putAll, Act.put, List.setIfInBounds_toArray, List.set_cons_zero, List.set_cons_succ]; rfl)
          refine two_ (i := 9) (j := 10) (Ni := some 10) (Nj := some 11) bN7_ bN8_ rfl rfl rfl rfl (two_of HT_.out (by kernel_rfl)) (by decide) (by decide) (fun K hK => ?_) (fun K hK => ?_)
          ·skip
           refine box_step ?hg (N := 10) ?hd (cs := #[.slice none 0 0]) (t := 26) ?hr ?_; (case hd => rfl); (case hg => rfl); (case hr => first | (go_simp; done) | (go_simp; rfl))
           intro gb255 hg w17 hbox hb
           have n0_ := am_ (Kd.V_below (Kd.V_elderB (vx_ HO_246000) gb255 (Nat.le_of_eq hg.symm)) hb)
           have n1_ := am_ (Kd.V_below (Kd.V_elderB (vx_ HO249) gb255 (Nat.le_of_eq hg.symm)) hb)
           have n2_ := am_ (blk_below (g := gb243) (o := .cells #[.int .u64 a1_0, .int .u64 a1_1] 34 (0, 0)) (bx_ BK243) hb)
           have n3_ := am_ (blk_below (g := gb245) (o := .cells #[.slice Ao13 x246000_1.length co13] 26 (0, 0)) (bx_ BK245) hb)
           have n4_ := am_ (below_step (hx_ HB) hb)
           have n5_ := am_ (hbox)
           have n6_ := am_ ((by rw [hg]; exact (below_size (hx_ HB)) : w.heap.size ≤ gb255))
           have n7_ := am_ ((by rw [hg]; exact (below_size (hx_ HB)) : w.heap.size ≤ gb255))
           have n8_ := am_ ((by rw [hg]; exact Nat.ne_of_lt (blk_lt (g := gb243) (o := .cells #[.int .u64 a1_0, .int .u64 a1_1] 34 (0, 0)) (bx_ BK243)) : gb243 ≠ gb255))
           have n9_ := am_ ((by rw [hg]; exact Nat.ne_of_gt (blk_lt (g := gb243) (o := .cells #[.int .u64 a1_0, .int .u64 a1_1] 34 (0, 0)) (bx_ BK243)) : gb255 ≠ gb243))
           have n10_ := am_ ((by rw [hg]; exact Nat.ne_of_lt (blk_lt (g := gb245) (o := .cells #[.slice Ao13 x246000_1.length co13] 26 (0, 0)) (bx_ BK245)) : gb245 ≠ gb255))
           have n11_ := am_ ((by rw [hg]; exact Nat.ne_of_gt (blk_lt (g := gb245) (o := .cells #[.slice Ao13 x246000_1.length co13] 26 (0, 0)) (bx_ BK245)) : gb255 ≠ gb245))
           clear HO_246000
           clear HO249
           clear BK243
           clear BK245
           clear HB
           have HO_246000 := n0_
           have HO249 := n1_
           have BK243 := n2_
           have BK245 := n3_
           have HB := n4_
           have BK255 := n5_
           have GW255 := n6_
           have GE255 := n7_
           have NB243_255 := n8_
           have NB255_243 := n9_
           have NB245_255 := n10_
           have NB255_245 := n11_
           clear n0_ n1_ n2_ n3_ n4_ n5_ n6_ n7_ n8_ n9_ n10_ n11_
           clear hb hbox hg
           refine hK.out _ _ ⟨(blk_cell BK245.out 0).trans rfl, ((HB.out.cell (World.block_lt_of_cell? w _ hw246_0)).trans hw246_0), ((HB.out.cell (World.block_lt_of_cell? w _ hw246_1)).trans hw246_1), ((HB.out.cell (World.block_lt_of_cell? w _ hw246_2)).trans hw246_2), ((HB.out.cell (World.block_lt_of_cell? w _ hw246_3)).trans hw246_3), ((HB.out.cell (World.block_lt_of_cell? w _ hw246_4)).trans hw246_4), ((HB.out.cell (World.block_lt_of_cell? w _ hw246_5)).trans hw246_5), ((HB.out.cell (World.block_lt_of_cell? w _ hw246_6)).trans hw246_6)⟩ (fun hHeld => ?_)
           clear hK K
           refine norm_ (a' := ?_) ?_ ?_
           rotate_left
           ·show Act.put _ (some 10) _ = _
            simp only [Act.put, List.setIfInBounds_toArray, List.set_cons_zero, List.set_cons_succ, i64_w, i32_w]
            rfl
           exact norm_ (by first | (simp only [putAll, Act.put, List.setIfInBounds_toArray, List.set_cons_zero, List.set_cons_succ]; done) | (simp only [putAll, Act.put, List.setIfInBounds_toArray, List.set_cons_zero, List.set_cons_succ]; rfl)) (hJ5_9 (v248, gb255) _ ⟨hHeld, (by (with_reducible repeat (first | apply Kd.V_alloc | apply Kd.V_drewN | apply Kd.V_drew)); exact Kd.V_mono HO249.out (fun _ hk => ⟨hk.1.1, ⟨hk.1.2, hk.2⟩⟩)), (by (with_reducible repeat (first | apply Kd.V_alloc | apply Kd.V_drewN | apply Kd.V_drew)); exact Kd.V_mono HO_246000.out (fun _ hk => ⟨hk.1.1, ⟨hk.1.2, hk.2⟩⟩)), (bx_ BK243), (bx_ BK245), (bx_ BK255), GW255.out, GE255.out, NB243_255.out, NB255_243.out, NB245_255.out, NB255_245.out, (hx_ HB)⟩)
          ·skip
           refine box_step ?hg (N := 11) ?hd (cs := #[.int .i64 0, .string (⟨#[]⟩ : ByteArray), .int .u64 0, .bool false, .bool false]) (t := 30) ?hr ?_; (case hd => rfl); (case hg => rfl); (case hr => first | (go_simp; done) | (go_simp; rfl))
           intro gb256 hg w17 hbox hb
           have n0_ := am_ (Kd.V_below (Kd.V_elderB (vx_ HO_246000) gb256 (Nat.le_of_eq hg.symm)) hb)
           have n1_ := am_ (Kd.V_below (Kd.V_elderB (vx_ HO249) gb256 (Nat.le_of_eq hg.symm)) hb)
           have n2_ := am_ (blk_below (g := gb243) (o := .cells #[.int .u64 a1_0, .int .u64 a1_1] 34 (0, 0)) (bx_ BK243) hb)
           have n3_ := am_ (blk_below (g := gb245) (o := .cells #[.slice Ao13 x246000_1.length co13] 26 (0, 0)) (bx_ BK245) hb)
           have n4_ := am_ (below_step (hx_ HB) hb)
           have n5_ := am_ (hbox)
           have n6_ := am_ ((by rw [hg]; exact (below_size (hx_ HB)) : w.heap.size ≤ gb256))
           have n7_ := am_ ((by rw [hg]; exact (below_size (hx_ HB)) : w.heap.size ≤ gb256))
           have n8_ := am_ ((by rw [hg]; exact Nat.ne_of_lt (blk_lt (g := gb243) (o := .cells #[.int .u64 a1_0, .int .u64 a1_1] 34 (0, 0)) (bx_ BK243)) : gb243 ≠ gb256))
           have n9_ := am_ ((by rw [hg]; exact Nat.ne_of_gt (blk_lt (g := gb243) (o := .cells #[.int .u64 a1_0, .int .u64 a1_1] 34 (0, 0)) (bx_ BK243)) : gb256 ≠ gb243))
           have n10_ := am_ ((by rw [hg]; exact Nat.ne_of_lt (blk_lt (g := gb245) (o := .cells #[.slice Ao13 x246000_1.length co13] 26 (0, 0)) (bx_ BK245)) : gb245 ≠ gb256))
           have n11_ := am_ ((by rw [hg]; exact Nat.ne_of_gt (blk_lt (g := gb245) (o := .cells #[.slice Ao13 x246000_1.length co13] 26 (0, 0)) (bx_ BK245)) : gb256 ≠ gb245))
           clear HO_246000
           clear HO249
           clear BK243
           clear BK245
           clear HB
           have HO_246000 := n0_
           have HO249 := n1_
           have BK243 := n2_
           have BK245 := n3_
           have HB := n4_
           have BK256 := n5_
           have GW256 := n6_
           have GE256 := n7_
           have NB243_256 := n8_
           have NB256_243 := n9_
           have NB245_256 := n10_
           have NB256_245 := n11_
           clear n0_ n1_ n2_ n3_ n4_ n5_ n6_ n7_ n8_ n9_ n10_ n11_
           clear hb hbox hg
           refine hK.out _ _ ⟨(blk_cell BK245.out 0).trans rfl, ((HB.out.cell (World.block_lt_of_cell? w _ hw246_0)).trans hw246_0), ((HB.out.cell (World.block_lt_of_cell? w _ hw246_1)).trans hw246_1), ((HB.out.cell (World.block_lt_of_cell? w _ hw246_2)).trans hw246_2), ((HB.out.cell (World.block_lt_of_cell? w _ hw246_3)).trans hw246_3), ((HB.out.cell (World.block_lt_of_cell? w _ hw246_4)).trans hw246_4), ((HB.out.cell (World.block_lt_of_cell? w _ hw246_5)).trans hw246_5), ((HB.out.cell (World.block_lt_of_cell? w _ hw246_6)).trans hw246_6)⟩ (fun hHeld => ?_)
           clear hK K
           refine norm_ (a' := ?_) ?_ ?_
           rotate_left
           ·show Act.put _ (some 11) _ = _
            simp only [Act.put, List.setIfInBounds_toArray, List.set_cons_zero, List.set_cons_succ, i64_w, i32_w]
            rfl
           exact norm_ (by first | (simp only [putAll, Act.put, List.setIfInBounds_toArray, List.set_cons_zero, List.set_cons_succ]; done) | (simp only [putAll, Act.put, List.setIfInBounds_toArray, List.set_cons_zero, List.set_cons_succ]; rfl)) (hJ5_10 (v248, gb256) _ ⟨hHeld, (by (with_reducible repeat (first | apply Kd.V_alloc | apply Kd.V_drewN | apply Kd.V_drew)); exact Kd.V_mono HO249.out (fun _ hk => ⟨hk.1.1, ⟨hk.1.2, hk.2⟩⟩)), (by (with_reducible repeat (first | apply Kd.V_alloc | apply Kd.V_drewN | apply Kd.V_drew)); exact Kd.V_mono HO_246000.out (fun _ hk => ⟨hk.1.1, ⟨hk.1.2, hk.2⟩⟩)), (bx_ BK243), (bx_ BK245), (bx_ BK256), GW256.out, GE256.out, NB243_256.out, NB256_243.out, NB245_256.out, NB256_245.out, (hx_ HB)⟩)
        ·skip
         rintro ⟨gb255, gb256⟩ w17 ⟨hS_, h0_, h1_, h2_, h3_, h4_, h5_, h6_, h7_, h8_, h9_, h10_, h11_, h12_, h13_, h14_, h15_, h16_, h17_, h18_, h19_⟩
         have n0_ : Aside0 (Kd.V k42 42 w17 w.heap.size (fun k_ => k_ ≠ gb243 ∧ k_ ≠ gb245 ∧ k_ ≠ gb255 ∧ k_ ≠ gb256) (.slice Ao13 x246000_1.length co13) x246000_1) := ⟨h0_⟩
         have n1_ : Aside0 (w17.heap[gb243]? = some (.cells #[.int .u64 a1_0, .int .u64 a1_1] 34 (0, 0))) := ⟨h1_⟩
         have n2_ : Aside0 (w17.heap[gb245]? = some (.cells #[.slice Ao13 x246000_1.length co13] 26 (0, 0))) := ⟨h2_⟩
         have n3_ : Aside0 (w17.heap[gb255]? = some (.cells #[.slice none 0 0] 26 (0, 0))) := ⟨h3_⟩
         have n4_ : Aside0 (w17.heap[gb256]? = some (.cells #[.int .i64 0, .string (⟨#[]⟩ : ByteArray), .int .u64 0, .bool false, .bool false] 30 (0, 0))) := ⟨h4_⟩
         have n5_ : Aside0 (w.heap.size ≤ gb255) := ⟨h5_⟩
         have n6_ : Aside0 (w.heap.size ≤ gb255) := ⟨h6_⟩
         have n7_ : Aside0 (gb243 ≠ gb255) := ⟨h7_⟩
         have n8_ : Aside0 (gb255 ≠ gb243) := ⟨h8_⟩
         have n9_ : Aside0 (gb245 ≠ gb255) := ⟨h9_⟩
         have n10_ : Aside0 (gb255 ≠ gb245) := ⟨h10_⟩
         have n11_ : Aside0 (gb256 ≠ gb255) := ⟨h11_⟩
         have n12_ : Aside0 (gb255 ≠ gb256) := ⟨h12_⟩
         have n13_ : Aside0 (w.heap.size ≤ gb256) := ⟨h13_⟩
         have n14_ : Aside0 (w.heap.size ≤ gb256) := ⟨h14_⟩
         have n15_ : Aside0 (gb243 ≠ gb256) := ⟨h15_⟩
         have n16_ : Aside0 (gb256 ≠ gb243) := ⟨h16_⟩
         have n17_ : Aside0 (gb245 ≠ gb256) := ⟨h17_⟩
         have n18_ : Aside0 (gb256 ≠ gb245) := ⟨h18_⟩
         have n19_ : Aside0 (Below w.heap.size w w17) := ⟨h19_⟩
         clear HO_246000
         clear BK243
         clear BK245
         clear HB
         clear h0_ h1_ h2_ h3_ h4_ h5_ h6_ h7_ h8_ h9_ h10_ h11_ h12_ h13_ h14_ h15_ h16_ h17_ h18_ h19_
         have HO_246000 := n0_
         have BK243 := n1_
         have BK245 := n2_
         have BK255 := n3_
         have BK256 := n4_
         have GW255 := n5_
         have GE255 := n6_
         have NB243_255 := n7_
         have NB255_243 := n8_
         have NB245_255 := n9_
         have NB255_245 := n10_
         have NB256_255 := n11_
         have NB255_256 := n12_
         have GW256 := n13_
         have GE256 := n14_
         have NB243_256 := n15_
         have NB256_243 := n16_
         have NB245_256 := n17_
         have NB256_245 := n18_
         have HB := n19_
         clear n0_ n1_ n2_ n3_ n4_ n5_ n6_ n7_ n8_ n9_ n10_ n11_ n12_ n13_ n14_ n15_ n16_ n17_ n18_ n19_
         have hHeld : w17.cell? ⟨gb245, 0, none⟩ = some (.slice Ao13 x246000_1.length co13) ∧ w17.cell? (ad246.add ((x9_1).toNat * 7)) = some (.int .i64 ((rd_T38 l0 x9_1).f0)) ∧ w17.cell? ⟨(ad246.add ((x9_1).toNat * 7)).block, (ad246.add ((x9_1).toNat * 7)).off + 1, none⟩ = some (.int .u64 ((rd_T38 l0 x9_1).f1.f0)) ∧ w17.cell? ⟨(ad246.add ((x9_1).toNat * 7)).block, (ad246.add ((x9_1).toNat * 7)).off + 2, none⟩ = some (.int .u64 ((rd_T38 l0 x9_1).f1.f1)) ∧ w17.cell? ⟨(ad246.add ((x9_1).toNat * 7)).block, (ad246.add ((x9_1).toNat * 7)).off + 3, none⟩ = some (.string ((rd_T38 l0 x9_1).f2)) ∧ w17.cell? ⟨(ad246.add ((x9_1).toNat * 7)).block, (ad246.add ((x9_1).toNat * 7)).off + 4, none⟩ = some (.slice A246_4 ((rd_T38 l0 x9_1).f3).length c246_4) ∧ w17.cell? ⟨(ad246.add ((x9_1).toNat * 7)).block, (ad246.add ((x9_1).toNat * 7)).off + 5, none⟩ = some (.bool ((rd_T38 l0 x9_1).f4)) ∧ w17.cell? ⟨(ad246.add ((x9_1).toNat * 7)).block, (ad246.add ((x9_1).toNat * 7)).off + 6, none⟩ = some (.slice A246_6 ((rd_T38 l0 x9_1).f5).length c246_6) := hS_
         refine norm_ (a' := ?_) ?_ ?_; rotate_left; (simp only [putAll, Act.put, List.setIfInBounds_toArray, List.set_cons_zero, List.set_cons_succ]; rfl)
         refine one_ (i := 5) (N := some 28) bN22_ rfl rfl (one_of HT_.out (by kernel_rfl)) (by decide) (fun K hK => ?_)
         refine goes_ Try.func9 (by kernel_rfl) rfl #[.agg #[.slice Ao13 x246000_1.length co13], .agg #[.int .i64 ((rd_T38 l0 x9_1).f0), .int .u64 ((rd_T38 l0 x9_1).f1.f0), .int .u64 ((rd_T38 l0 x9_1).f1.f1), .string ((rd_T38 l0 x9_1).f2), .slice A246_4 ((rd_T38 l0 x9_1).f3).length c246_4, .bool ((rd_T38 l0 x9_1).f4), .slice A246_6 ((rd_T38 l0 x9_1).f5).length c246_6]] (by rfl) rfl rfl (by (try simp only [List.map_toArray, List.map_cons, List.map_nil]); first | done | rfl | (simp only [List.length_drop, List.length_take]; rfl)) ?_
         with_reducible refine (coord_Do.calls k1 (fun k_ => (k_ ≠ gb243 ∧ (k_ ≠ gb245 ∧ (k_ ≠ gb255 ∧ k_ ≠ gb256)))) _ _ x246000_1 ((rd_T38 l0 x9_1).f0) ((rd_T38 l0 x9_1).f1.f0) ((rd_T38 l0 x9_1).f1.f1) ((rd_T38 l0 x9_1).f2) _ _ ((rd_T38 l0 x9_1).f3) ((rd_T38 l0 x9_1).f4) _ _ ((rd_T38 l0 x9_1).f5) t247 t250 t251 t252 t253 t254 _ ?side1 ?side2 ?side3 ?side4 ?side5 A11.out).mono ?_
         (case side1 => exact HO_246000.out)
         (case side2 => repeat (first | exact (Kd.C_below HR246_4.out HB.out) | (with_reducible refine Kd.C_alloc ?_ _) | (with_reducible refine Kd.C_drewN ?_ _) | (with_reducible refine Kd.C_drew ?_)))
         (case side3 => exact HC246_4.out)
         (case side4 => repeat (first | exact (Kd.C_below HR246_6.out HB.out) | (with_reducible refine Kd.C_alloc ?_ _) | (with_reducible refine Kd.C_drewN ?_ _) | (with_reducible refine Kd.C_drew ?_)))
         (case side5 => exact HC246_6.out)
         rintro e w18 ⟨v248, rfl, ho0, hb⟩
         refine ⟨_, rfl, ?_⟩
         have n0_ := am_ (Kd.V_below (vx_ HO_246000) hb)
         have n1_ := am_ (Kd.V_lower (Kd.V_mono (ok' := fun k_ => k_ ≠ gb243 ∧ k_ ≠ gb245 ∧ k_ ≠ gb255 ∧ k_ ≠ gb256) ho0 (fun k_ hk_ => ⟨Or.elim hk_ (fun hs_ => hs_.1) (fun hn_ => (Kd.freshB (g := gb243) (o := .cells #[.int .u64 a1_0, .int .u64 a1_1] 34 (0, 0)) (bx_ BK243) k_ hn_)), Or.elim hk_ (fun hs_ => hs_.2.1) (fun hn_ => (Kd.freshB (g := gb245) (o := .cells #[.slice Ao13 x246000_1.length co13] 26 (0, 0)) (bx_ BK245) k_ hn_)), Or.elim hk_ (fun hs_ => hs_.2.2.1) (fun hn_ => (Kd.freshB (g := gb255) (o := .cells #[.slice none 0 0] 26 (0, 0)) (bx_ BK255) k_ hn_)), Or.elim hk_ (fun hs_ => hs_.2.2.2) (fun hn_ => (Kd.freshB (g := gb256) (o := .cells #[.int .i64 0, .string (⟨#[]⟩ : ByteArray), .int .u64 0, .bool false, .bool false] 30 (0, 0)) (bx_ BK256) k_ hn_))⟩)) (below_size (hx_ HB)))
         have n2_ := am_ (blk_below (g := gb243) (o := .cells #[.int .u64 a1_0, .int .u64 a1_1] 34 (0, 0)) (bx_ BK243) hb)
         have n3_ := am_ (blk_below (g := gb245) (o := .cells #[.slice Ao13 x246000_1.length co13] 26 (0, 0)) (bx_ BK245) hb)
         have n4_ := am_ (blk_below (g := gb255) (o := .cells #[.slice none 0 0] 26 (0, 0)) (bx_ BK255) hb)
         have n5_ := am_ (blk_below (g := gb256) (o := .cells #[.int .i64 0, .string (⟨#[]⟩ : ByteArray), .int .u64 0, .bool false, .bool false] 30 (0, 0)) (bx_ BK256) hb)
         have n6_ := am_ (below_step (hx_ HB) hb)
         clear HO_246000
         clear BK243
         clear BK245
         clear BK255
         clear BK256
         clear HB
         have HO_246000 := n0_
         have HO249 := n1_
         have BK243 := n2_
         have BK245 := n3_
         have BK255 := n4_
         have BK256 := n5_
         have HB := n6_
         clear n0_ n1_ n2_ n3_ n4_ n5_ n6_
         (try clear hb)
         (try clear hb2)
         (try clear hk)
         (try clear hi)
         (try clear ho0)
         refine hK.out _ _ ⟨(blk_cell BK245.out 0).trans rfl, ((HB.out.cell (World.block_lt_of_cell? w _ hw246_0)).trans hw246_0), ((HB.out.cell (World.block_lt_of_cell? w _ hw246_1)).trans hw246_1), ((HB.out.cell (World.block_lt_of_cell? w _ hw246_2)).trans hw246_2), ((HB.out.cell (World.block_lt_of_cell? w _ hw246_3)).trans hw246_3), ((HB.out.cell (World.block_lt_of_cell? w _ hw246_4)).trans hw246_4), ((HB.out.cell (World.block_lt_of_cell? w _ hw246_5)).trans hw246_5), ((HB.out.cell (World.block_lt_of_cell? w _ hw246_6)).trans hw246_6)⟩ (fun hHeld => ?_)
         clear hK K
         refine norm_ (a' := ?_) ?_ ?_
         rotate_left
         ·show Act.put _ (some 28) _ = _
          simp only [Act.put, List.setIfInBounds_toArray, List.set_cons_zero, List.set_cons_succ, i64_w, i32_w]
          rfl
         refine pure_ (i := 6) (N := some 22) (v := ?_) (a' := ?_) bN23_ rfl rfl (any_of HT_.out (by kernel_rfl)) (fun _ _ _ h => h) (Or.inl ⟨by rfl, ?_⟩) ?_ ?_; rotate_left; (intro w'; go_simp; with_reducible rfl); rotate_left; (simp only [Act.put, List.setIfInBounds_toArray, List.set_cons_zero, List.set_cons_succ, i64_w, i32_w]; rfl)
         refine pure_ (i := 7) (N := some 29) (v := ?_) (a' := ?_) bN24_ rfl rfl (any_of HT_.out (by kernel_rfl)) (fun _ _ _ h => h) (Or.inl ⟨by rfl, ?_⟩) ?_ ?_; rotate_left; (intro w'; go_simp; with_reducible rfl); rotate_left; (simp only [Act.put, List.setIfInBounds_toArray, List.set_cons_zero, List.set_cons_succ, i64_w, i32_w]; rfl)
         refine pure_ (i := 8) (N := some 30) (v := ?_) (a' := ?_) bN6_ rfl rfl (any_of HT_.out (by kernel_rfl)) (fun _ _ _ h => h) (Or.inl ⟨by rfl, ?_⟩) ?_ ?_; rotate_left; (intro w'; go_simp; with_reducible rfl); rotate_left; (simp only [Act.put, List.setIfInBounds_toArray, List.set_cons_zero, List.set_cons_succ, i64_w, i32_w]; rfl)
         exact norm_ (by first | (simp only [putAll, Act.put, List.setIfInBounds_toArray, List.set_cons_zero, List.set_cons_succ]; done) | (simp only [putAll, Act.put, List.setIfInBounds_toArray, List.set_cons_zero, List.set_cons_succ]; rfl)) (hJ5_9_10 (v248, gb255, gb256) _ ⟨hHeld, (vx_ HO249), (vx_ HO_246000), (bx_ BK243), (bx_ BK245), (bx_ BK255), (bx_ BK256), GW255.out, GE255.out, NB243_255.out, NB255_243.out, NB245_255.out, NB255_245.out, NB256_255.out, NB255_256.out, GW256.out, GE256.out, NB243_256.out, NB256_243.out, NB245_256.out, NB256_245.out, (hx_ HB)⟩)
       ·skip
        rintro ⟨v248, gb256⟩ w17 ⟨hS_, h0_, h1_, h2_, h3_, h4_, h5_, h6_, h7_, h8_, h9_, h10_, h11_⟩
        have n0_ : Aside0 (Kd.V k42 42 w17 w.heap.size (fun k_ => k_ ≠ gb243 ∧ k_ ≠ gb245 ∧ k_ ≠ gb256) v248 t247) := ⟨h0_⟩
        have n1_ : Aside0 (Kd.V k42 42 w17 w.heap.size (fun k_ => k_ ≠ gb243 ∧ k_ ≠ gb245 ∧ k_ ≠ gb256) (.slice Ao13 x246000_1.length co13) x246000_1) := ⟨h1_⟩
        have n2_ : Aside0 (w17.heap[gb243]? = some (.cells #[.int .u64 a1_0, .int .u64 a1_1] 34 (0, 0))) := ⟨h2_⟩
        have n3_ : Aside0 (w17.heap[gb245]? = some (.cells #[.slice Ao13 x246000_1.length co13] 26 (0, 0))) := ⟨h3_⟩
        have n4_ : Aside0 (w17.heap[gb256]? = some (.cells #[.int .i64 0, .string (⟨#[]⟩ : ByteArray), .int .u64 0, .bool false, .bool false] 30 (0, 0))) := ⟨h4_⟩
        have n5_ : Aside0 (w.heap.size ≤ gb256) := ⟨h5_⟩
        have n6_ : Aside0 (w.heap.size ≤ gb256) := ⟨h6_⟩
        have n7_ : Aside0 (gb243 ≠ gb256) := ⟨h7_⟩
        have n8_ : Aside0 (gb256 ≠ gb243) := ⟨h8_⟩
        have n9_ : Aside0 (gb245 ≠ gb256) := ⟨h9_⟩
        have n10_ : Aside0 (gb256 ≠ gb245) := ⟨h10_⟩
        have n11_ : Aside0 (Below w.heap.size w w17) := ⟨h11_⟩
        clear HO_246000
        clear BK243
        clear BK245
        clear HB
        clear h0_ h1_ h2_ h3_ h4_ h5_ h6_ h7_ h8_ h9_ h10_ h11_
        have HO249 := n0_
        have HO_246000 := n1_
        have BK243 := n2_
        have BK245 := n3_
        have BK256 := n4_
        have GW256 := n5_
        have GE256 := n6_
        have NB243_256 := n7_
        have NB256_243 := n8_
        have NB245_256 := n9_
        have NB256_245 := n10_
        have HB := n11_
        clear n0_ n1_ n2_ n3_ n4_ n5_ n6_ n7_ n8_ n9_ n10_ n11_
        have hHeld : w17.cell? ⟨gb245, 0, none⟩ = some (.slice Ao13 x246000_1.length co13) ∧ w17.cell? (ad246.add ((x9_1).toNat * 7)) = some (.int .i64 ((rd_T38 l0 x9_1).f0)) ∧ w17.cell? ⟨(ad246.add ((x9_1).toNat * 7)).block, (ad246.add ((x9_1).toNat * 7)).off + 1, none⟩ = some (.int .u64 ((rd_T38 l0 x9_1).f1.f0)) ∧ w17.cell? ⟨(ad246.add ((x9_1).toNat * 7)).block, (ad246.add ((x9_1).toNat * 7)).off + 2, none⟩ = some (.int .u64 ((rd_T38 l0 x9_1).f1.f1)) ∧ w17.cell? ⟨(ad246.add ((x9_1).toNat * 7)).block, (ad246.add ((x9_1).toNat * 7)).off + 3, none⟩ = some (.string ((rd_T38 l0 x9_1).f2)) ∧ w17.cell? ⟨(ad246.add ((x9_1).toNat * 7)).block, (ad246.add ((x9_1).toNat * 7)).off + 4, none⟩ = some (.slice A246_4 ((rd_T38 l0 x9_1).f3).length c246_4) ∧ w17.cell? ⟨(ad246.add ((x9_1).toNat * 7)).block, (ad246.add ((x9_1).toNat * 7)).off + 5, none⟩ = some (.bool ((rd_T38 l0 x9_1).f4)) ∧ w17.cell? ⟨(ad246.add ((x9_1).toNat * 7)).block, (ad246.add ((x9_1).toNat * 7)).off + 6, none⟩ = some (.slice A246_6 ((rd_T38 l0 x9_1).f5).length c246_6) := hS_
        refine norm_ (a' := ?_) ?_ ?_; rotate_left; (simp only [putAll, Act.put, List.setIfInBounds_toArray, List.set_cons_zero, List.set_cons_succ]; rfl)
        refine one_ (i := 9) (N := some 10) bN6_ rfl rfl (one_of HT_.out (by kernel_rfl)) (by decide) (fun K hK => ?_)
        refine box_step ?hg (N := 10) ?hd (cs := #[.slice none 0 0]) (t := 26) ?hr ?_; (case hd => rfl); (case hg => rfl); (case hr => first | (go_simp; done) | (go_simp; rfl))
        intro gb255 hg w18 hbox hb
        have n0_ := am_ (Kd.V_below (Kd.V_elderB (vx_ HO_246000) gb255 (Nat.le_of_eq hg.symm)) hb)
        have n1_ := am_ (Kd.V_below (Kd.V_elderB (vx_ HO249) gb255 (Nat.le_of_eq hg.symm)) hb)
        have n2_ := am_ (blk_below (g := gb243) (o := .cells #[.int .u64 a1_0, .int .u64 a1_1] 34 (0, 0)) (bx_ BK243) hb)
        have n3_ := am_ (blk_below (g := gb245) (o := .cells #[.slice Ao13 x246000_1.length co13] 26 (0, 0)) (bx_ BK245) hb)
        have n4_ := am_ (blk_below (g := gb256) (o := .cells #[.int .i64 0, .string (⟨#[]⟩ : ByteArray), .int .u64 0, .bool false, .bool false] 30 (0, 0)) (bx_ BK256) hb)
        have n5_ := am_ (below_step (hx_ HB) hb)
        have n6_ := am_ (hbox)
        have n7_ := am_ ((by rw [hg]; exact (below_size (hx_ HB)) : w.heap.size ≤ gb255))
        have n8_ := am_ ((by rw [hg]; exact (below_size (hx_ HB)) : w.heap.size ≤ gb255))
        have n9_ := am_ ((by rw [hg]; exact Nat.ne_of_lt (blk_lt (g := gb243) (o := .cells #[.int .u64 a1_0, .int .u64 a1_1] 34 (0, 0)) (bx_ BK243)) : gb243 ≠ gb255))
        have n10_ := am_ ((by rw [hg]; exact Nat.ne_of_gt (blk_lt (g := gb243) (o := .cells #[.int .u64 a1_0, .int .u64 a1_1] 34 (0, 0)) (bx_ BK243)) : gb255 ≠ gb243))
        have n11_ := am_ ((by rw [hg]; exact Nat.ne_of_lt (blk_lt (g := gb245) (o := .cells #[.slice Ao13 x246000_1.length co13] 26 (0, 0)) (bx_ BK245)) : gb245 ≠ gb255))
        have n12_ := am_ ((by rw [hg]; exact Nat.ne_of_gt (blk_lt (g := gb245) (o := .cells #[.slice Ao13 x246000_1.length co13] 26 (0, 0)) (bx_ BK245)) : gb255 ≠ gb245))
        have n13_ := am_ ((by rw [hg]; exact Nat.ne_of_lt (blk_lt (g := gb256) (o := .cells #[.int .i64 0, .string (⟨#[]⟩ : ByteArray), .int .u64 0, .bool false, .bool false] 30 (0, 0)) (bx_ BK256)) : gb256 ≠ gb255))
        have n14_ := am_ ((by rw [hg]; exact Nat.ne_of_gt (blk_lt (g := gb256) (o := .cells #[.int .i64 0, .string (⟨#[]⟩ : ByteArray), .int .u64 0, .bool false, .bool false] 30 (0, 0)) (bx_ BK256)) : gb255 ≠ gb256))
        clear HO_246000
        clear HO249
        clear BK243
        clear BK245
        clear BK256
        clear HB
        have HO_246000 := n0_
        have HO249 := n1_
        have BK243 := n2_
        have BK245 := n3_
        have BK256 := n4_
        have HB := n5_
        have BK255 := n6_
        have GW255 := n7_
        have GE255 := n8_
        have NB243_255 := n9_
        have NB255_243 := n10_
        have NB245_255 := n11_
        have NB255_245 := n12_
        have NB256_255 := n13_
        have NB255_256 := n14_
        clear n0_ n1_ n2_ n3_ n4_ n5_ n6_ n7_ n8_ n9_ n10_ n11_ n12_ n13_ n14_
        clear hb hbox hg
        refine hK.out _ _ ⟨(blk_cell BK245.out 0).trans rfl, ((HB.out.cell (World.block_lt_of_cell? w _ hw246_0)).trans hw246_0), ((HB.out.cell (World.block_lt_of_cell? w _ hw246_1)).trans hw246_1), ((HB.out.cell (World.block_lt_of_cell? w _ hw246_2)).trans hw246_2), ((HB.out.cell (World.block_lt_of_cell? w _ hw246_3)).trans hw246_3), ((HB.out.cell (World.block_lt_of_cell? w _ hw246_4)).trans hw246_4), ((HB.out.cell (World.block_lt_of_cell? w _ hw246_5)).trans hw246_5), ((HB.out.cell (World.block_lt_of_cell? w _ hw246_6)).trans hw246_6)⟩ (fun hHeld => ?_)
        clear hK K
        refine norm_ (a' := ?_) ?_ ?_
        rotate_left
        ·show Act.put _ (some 10) _ = _
         simp only [Act.put, List.setIfInBounds_toArray, List.set_cons_zero, List.set_cons_succ, i64_w, i32_w]
         rfl
        exact norm_ (by first | (simp only [putAll, Act.put, List.setIfInBounds_toArray, List.set_cons_zero, List.set_cons_succ]; done) | (simp only [putAll, Act.put, List.setIfInBounds_toArray, List.set_cons_zero, List.set_cons_succ]; rfl)) (hJ5_9_10 (v248, gb255, gb256) _ ⟨hHeld, (by (with_reducible repeat (first | apply Kd.V_alloc | apply Kd.V_drewN | apply Kd.V_drew)); exact Kd.V_mono HO249.out (fun _ hk => ⟨hk.1.1, ⟨hk.1.2.1, ⟨hk.2, hk.1.2.2⟩⟩⟩)), (by (with_reducible repeat (first | apply Kd.V_alloc | apply Kd.V_drewN | apply Kd.V_drew)); exact Kd.V_mono HO_246000.out (fun _ hk => ⟨hk.1.1, ⟨hk.1.2.1, ⟨hk.2, hk.1.2.2⟩⟩⟩)), (bx_ BK243), (bx_ BK245), (bx_ BK255), (bx_ BK256), GW255.out, GE255.out, NB243_255.out, NB255_243.out, NB245_255.out, NB255_245.out, NB256_255.out, NB255_256.out, GW256.out, GE256.out, NB243_256.out, NB256_243.out, NB245_256.out, NB256_245.out, (hx_ HB)⟩)
      ·skip
       rintro ⟨v248, gb255⟩ w17 ⟨hS_, h0_, h1_, h2_, h3_, h4_, h5_, h6_, h7_, h8_, h9_, h10_, h11_⟩
       have n0_ : Aside0 (Kd.V k42 42 w17 w.heap.size (fun k_ => k_ ≠ gb243 ∧ k_ ≠ gb245 ∧ k_ ≠ gb255) v248 t247) := ⟨h0_⟩
       have n1_ : Aside0 (Kd.V k42 42 w17 w.heap.size (fun k_ => k_ ≠ gb243 ∧ k_ ≠ gb245 ∧ k_ ≠ gb255) (.slice Ao13 x246000_1.length co13) x246000_1) := ⟨h1_⟩
       have n2_ : Aside0 (w17.heap[gb243]? = some (.cells #[.int .u64 a1_0, .int .u64 a1_1] 34 (0, 0))) := ⟨h2_⟩
       have n3_ : Aside0 (w17.heap[gb245]? = some (.cells #[.slice Ao13 x246000_1.length co13] 26 (0, 0))) := ⟨h3_⟩
       have n4_ : Aside0 (w17.heap[gb255]? = some (.cells #[.slice none 0 0] 26 (0, 0))) := ⟨h4_⟩
       have n5_ : Aside0 (w.heap.size ≤ gb255) := ⟨h5_⟩
       have n6_ : Aside0 (w.heap.size ≤ gb255) := ⟨h6_⟩
       have n7_ : Aside0 (gb243 ≠ gb255) := ⟨h7_⟩
       have n8_ : Aside0 (gb255 ≠ gb243) := ⟨h8_⟩
       have n9_ : Aside0 (gb245 ≠ gb255) := ⟨h9_⟩
       have n10_ : Aside0 (gb255 ≠ gb245) := ⟨h10_⟩
       have n11_ : Aside0 (Below w.heap.size w w17) := ⟨h11_⟩
       clear HO_246000
       clear BK243
       clear BK245
       clear HB
       clear h0_ h1_ h2_ h3_ h4_ h5_ h6_ h7_ h8_ h9_ h10_ h11_
       have HO249 := n0_
       have HO_246000 := n1_
       have BK243 := n2_
       have BK245 := n3_
       have BK255 := n4_
       have GW255 := n5_
       have GE255 := n6_
       have NB243_255 := n7_
       have NB255_243 := n8_
       have NB245_255 := n9_
       have NB255_245 := n10_
       have HB := n11_
       clear n0_ n1_ n2_ n3_ n4_ n5_ n6_ n7_ n8_ n9_ n10_ n11_
       have hHeld : w17.cell? ⟨gb245, 0, none⟩ = some (.slice Ao13 x246000_1.length co13) ∧ w17.cell? (ad246.add ((x9_1).toNat * 7)) = some (.int .i64 ((rd_T38 l0 x9_1).f0)) ∧ w17.cell? ⟨(ad246.add ((x9_1).toNat * 7)).block, (ad246.add ((x9_1).toNat * 7)).off + 1, none⟩ = some (.int .u64 ((rd_T38 l0 x9_1).f1.f0)) ∧ w17.cell? ⟨(ad246.add ((x9_1).toNat * 7)).block, (ad246.add ((x9_1).toNat * 7)).off + 2, none⟩ = some (.int .u64 ((rd_T38 l0 x9_1).f1.f1)) ∧ w17.cell? ⟨(ad246.add ((x9_1).toNat * 7)).block, (ad246.add ((x9_1).toNat * 7)).off + 3, none⟩ = some (.string ((rd_T38 l0 x9_1).f2)) ∧ w17.cell? ⟨(ad246.add ((x9_1).toNat * 7)).block, (ad246.add ((x9_1).toNat * 7)).off + 4, none⟩ = some (.slice A246_4 ((rd_T38 l0 x9_1).f3).length c246_4) ∧ w17.cell? ⟨(ad246.add ((x9_1).toNat * 7)).block, (ad246.add ((x9_1).toNat * 7)).off + 5, none⟩ = some (.bool ((rd_T38 l0 x9_1).f4)) ∧ w17.cell? ⟨(ad246.add ((x9_1).toNat * 7)).block, (ad246.add ((x9_1).toNat * 7)).off + 6, none⟩ = some (.slice A246_6 ((rd_T38 l0 x9_1).f5).length c246_6) := hS_
       refine norm_ (a' := ?_) ?_ ?_; rotate_left; (simp only [putAll, Act.put, List.setIfInBounds_toArray, List.set_cons_zero, List.set_cons_succ]; rfl)
       refine one_ (i := 10) (N := some 11) bN6_ rfl rfl (one_of HT_.out (by kernel_rfl)) (by decide) (fun K hK => ?_)
       refine box_step ?hg (N := 11) ?hd (cs := #[.int .i64 0, .string (⟨#[]⟩ : ByteArray), .int .u64 0, .bool false, .bool false]) (t := 30) ?hr ?_; (case hd => rfl); (case hg => rfl); (case hr => first | (go_simp; done) | (go_simp; rfl))
       intro gb256 hg w18 hbox hb
       have n0_ := am_ (Kd.V_below (Kd.V_elderB (vx_ HO_246000) gb256 (Nat.le_of_eq hg.symm)) hb)
       have n1_ := am_ (Kd.V_below (Kd.V_elderB (vx_ HO249) gb256 (Nat.le_of_eq hg.symm)) hb)
       have n2_ := am_ (blk_below (g := gb243) (o := .cells #[.int .u64 a1_0, .int .u64 a1_1] 34 (0, 0)) (bx_ BK243) hb)
       have n3_ := am_ (blk_below (g := gb245) (o := .cells #[.slice Ao13 x246000_1.length co13] 26 (0, 0)) (bx_ BK245) hb)
       have n4_ := am_ (blk_below (g := gb255) (o := .cells #[.slice none 0 0] 26 (0, 0)) (bx_ BK255) hb)
       have n5_ := am_ (below_step (hx_ HB) hb)
       have n6_ := am_ (hbox)
       have n7_ := am_ ((by rw [hg]; exact (below_size (hx_ HB)) : w.heap.size ≤ gb256))
       have n8_ := am_ ((by rw [hg]; exact (below_size (hx_ HB)) : w.heap.size ≤ gb256))
       have n9_ := am_ ((by rw [hg]; exact Nat.ne_of_lt (blk_lt (g := gb243) (o := .cells #[.int .u64 a1_0, .int .u64 a1_1] 34 (0, 0)) (bx_ BK243)) : gb243 ≠ gb256))
       have n10_ := am_ ((by rw [hg]; exact Nat.ne_of_gt (blk_lt (g := gb243) (o := .cells #[.int .u64 a1_0, .int .u64 a1_1] 34 (0, 0)) (bx_ BK243)) : gb256 ≠ gb243))
       have n11_ := am_ ((by rw [hg]; exact Nat.ne_of_lt (blk_lt (g := gb245) (o := .cells #[.slice Ao13 x246000_1.length co13] 26 (0, 0)) (bx_ BK245)) : gb245 ≠ gb256))
       have n12_ := am_ ((by rw [hg]; exact Nat.ne_of_gt (blk_lt (g := gb245) (o := .cells #[.slice Ao13 x246000_1.length co13] 26 (0, 0)) (bx_ BK245)) : gb256 ≠ gb245))
       have n13_ := am_ ((by rw [hg]; exact Nat.ne_of_lt (blk_lt (g := gb255) (o := .cells #[.slice none 0 0] 26 (0, 0)) (bx_ BK255)) : gb255 ≠ gb256))
       have n14_ := am_ ((by rw [hg]; exact Nat.ne_of_gt (blk_lt (g := gb255) (o := .cells #[.slice none 0 0] 26 (0, 0)) (bx_ BK255)) : gb256 ≠ gb255))
       clear HO_246000
       clear HO249
       clear BK243
       clear BK245
       clear BK255
       clear HB
       have HO_246000 := n0_
       have HO249 := n1_
       have BK243 := n2_
       have BK245 := n3_
       have BK255 := n4_
       have HB := n5_
       have BK256 := n6_
       have GW256 := n7_
       have GE256 := n8_
       have NB243_256 := n9_
       have NB256_243 := n10_
       have NB245_256 := n11_
       have NB256_245 := n12_
       have NB255_256 := n13_
       have NB256_255 := n14_
       clear n0_ n1_ n2_ n3_ n4_ n5_ n6_ n7_ n8_ n9_ n10_ n11_ n12_ n13_ n14_
       clear hb hbox hg
       refine hK.out _ _ ⟨(blk_cell BK245.out 0).trans rfl, ((HB.out.cell (World.block_lt_of_cell? w _ hw246_0)).trans hw246_0), ((HB.out.cell (World.block_lt_of_cell? w _ hw246_1)).trans hw246_1), ((HB.out.cell (World.block_lt_of_cell? w _ hw246_2)).trans hw246_2), ((HB.out.cell (World.block_lt_of_cell? w _ hw246_3)).trans hw246_3), ((HB.out.cell (World.block_lt_of_cell? w _ hw246_4)).trans hw246_4), ((HB.out.cell (World.block_lt_of_cell? w _ hw246_5)).trans hw246_5), ((HB.out.cell (World.block_lt_of_cell? w _ hw246_6)).trans hw246_6)⟩ (fun hHeld => ?_)
       clear hK K
       refine norm_ (a' := ?_) ?_ ?_
       rotate_left
       ·show Act.put _ (some 11) _ = _
        simp only [Act.put, List.setIfInBounds_toArray, List.set_cons_zero, List.set_cons_succ, i64_w, i32_w]
        rfl
       exact norm_ (by first | (simp only [putAll, Act.put, List.setIfInBounds_toArray, List.set_cons_zero, List.set_cons_succ]; done) | (simp only [putAll, Act.put, List.setIfInBounds_toArray, List.set_cons_zero, List.set_cons_succ]; rfl)) (hJ5_9_10 (v248, gb255, gb256) _ ⟨hHeld, (by (with_reducible repeat (first | apply Kd.V_alloc | apply Kd.V_drewN | apply Kd.V_drew)); exact Kd.V_mono HO249.out (fun _ hk => ⟨hk.1.1, ⟨hk.1.2.1, ⟨hk.1.2.2, hk.2⟩⟩⟩)), (by (with_reducible repeat (first | apply Kd.V_alloc | apply Kd.V_drewN | apply Kd.V_drew)); exact Kd.V_mono HO_246000.out (fun _ hk => ⟨hk.1.1, ⟨hk.1.2.1, ⟨hk.1.2.2, hk.2⟩⟩⟩)), (bx_ BK243), (bx_ BK245), (bx_ BK255), (bx_ BK256), GW255.out, GE255.out, NB243_255.out, NB255_243.out, NB245_255.out, NB255_245.out, NB256_255.out, NB255_256.out, GW256.out, GE256.out, NB243_256.out, NB256_243.out, NB245_256.out, NB256_245.out, (hx_ HB)⟩)
     rintro ⟨v248, gb255, gb256⟩ w18 ⟨hS_, h0_, h1_, h2_, h3_, h4_, h5_, h6_, h7_, h8_, h9_, h10_, h11_, h12_, h13_, h14_, h15_, h16_, h17_, h18_, h19_, h20_⟩
     have n0_ : Aside0 (Kd.V k42 42 w18 w.heap.size (fun k_ => k_ ≠ gb243 ∧ k_ ≠ gb245 ∧ k_ ≠ gb255 ∧ k_ ≠ gb256) v248 t247) := ⟨h0_⟩
     have n1_ : Aside0 (Kd.V k42 42 w18 w.heap.size (fun k_ => k_ ≠ gb243 ∧ k_ ≠ gb245 ∧ k_ ≠ gb255 ∧ k_ ≠ gb256) (.slice Ao13 x246000_1.length co13) x246000_1) := ⟨h1_⟩
     have n2_ : Aside0 (w18.heap[gb243]? = some (.cells #[.int .u64 a1_0, .int .u64 a1_1] 34 (0, 0))) := ⟨h2_⟩
     have n3_ : Aside0 (w18.heap[gb245]? = some (.cells #[.slice Ao13 x246000_1.length co13] 26 (0, 0))) := ⟨h3_⟩
     have n4_ : Aside0 (w18.heap[gb255]? = some (.cells #[.slice none 0 0] 26 (0, 0))) := ⟨h4_⟩
     have n5_ : Aside0 (w18.heap[gb256]? = some (.cells #[.int .i64 0, .string (⟨#[]⟩ : ByteArray), .int .u64 0, .bool false, .bool false] 30 (0, 0))) := ⟨h5_⟩
     have n6_ : Aside0 (w.heap.size ≤ gb255) := ⟨h6_⟩
     have n7_ : Aside0 (w.heap.size ≤ gb255) := ⟨h7_⟩
     have n8_ : Aside0 (gb243 ≠ gb255) := ⟨h8_⟩
     have n9_ : Aside0 (gb255 ≠ gb243) := ⟨h9_⟩
     have n10_ : Aside0 (gb245 ≠ gb255) := ⟨h10_⟩
     have n11_ : Aside0 (gb255 ≠ gb245) := ⟨h11_⟩
     have n12_ : Aside0 (gb256 ≠ gb255) := ⟨h12_⟩
     have n13_ : Aside0 (gb255 ≠ gb256) := ⟨h13_⟩
     have n14_ : Aside0 (w.heap.size ≤ gb256) := ⟨h14_⟩
     have n15_ : Aside0 (w.heap.size ≤ gb256) := ⟨h15_⟩
     have n16_ : Aside0 (gb243 ≠ gb256) := ⟨h16_⟩
     have n17_ : Aside0 (gb256 ≠ gb243) := ⟨h17_⟩
     have n18_ : Aside0 (gb245 ≠ gb256) := ⟨h18_⟩
     have n19_ : Aside0 (gb256 ≠ gb245) := ⟨h19_⟩
     have n20_ : Aside0 (Below w.heap.size w w18) := ⟨h20_⟩
     clear HO_246000
     clear BK243
     clear BK245
     clear HB
     clear h0_ h1_ h2_ h3_ h4_ h5_ h6_ h7_ h8_ h9_ h10_ h11_ h12_ h13_ h14_ h15_ h16_ h17_ h18_ h19_ h20_
     have HO249 := n0_
     have HO_246000 := n1_
     have BK243 := n2_
     have BK245 := n3_
     have BK255 := n4_
     have BK256 := n5_
     have GW255 := n6_
     have GE255 := n7_
     have NB243_255 := n8_
     have NB255_243 := n9_
     have NB245_255 := n10_
     have NB255_245 := n11_
     have NB256_255 := n12_
     have NB255_256 := n13_
     have GW256 := n14_
     have GE256 := n15_
     have NB243_256 := n16_
     have NB256_243 := n17_
     have NB245_256 := n18_
     have NB256_245 := n19_
     have HB := n20_
     clear n0_ n1_ n2_ n3_ n4_ n5_ n6_ n7_ n8_ n9_ n10_ n11_ n12_ n13_ n14_ n15_ n16_ n17_ n18_ n19_ n20_
     have hHeld : w18.cell? ⟨gb245, 0, none⟩ = some (.slice Ao13 x246000_1.length co13) ∧ w18.cell? (ad246.add ((x9_1).toNat * 7)) = some (.int .i64 ((rd_T38 l0 x9_1).f0)) ∧ w18.cell? ⟨(ad246.add ((x9_1).toNat * 7)).block, (ad246.add ((x9_1).toNat * 7)).off + 1, none⟩ = some (.int .u64 ((rd_T38 l0 x9_1).f1.f0)) ∧ w18.cell? ⟨(ad246.add ((x9_1).toNat * 7)).block, (ad246.add ((x9_1).toNat * 7)).off + 2, none⟩ = some (.int .u64 ((rd_T38 l0 x9_1).f1.f1)) ∧ w18.cell? ⟨(ad246.add ((x9_1).toNat * 7)).block, (ad246.add ((x9_1).toNat * 7)).off + 3, none⟩ = some (.string ((rd_T38 l0 x9_1).f2)) ∧ w18.cell? ⟨(ad246.add ((x9_1).toNat * 7)).block, (ad246.add ((x9_1).toNat * 7)).off + 4, none⟩ = some (.slice A246_4 ((rd_T38 l0 x9_1).f3).length c246_4) ∧ w18.cell? ⟨(ad246.add ((x9_1).toNat * 7)).block, (ad246.add ((x9_1).toNat * 7)).off + 5, none⟩ = some (.bool ((rd_T38 l0 x9_1).f4)) ∧ w18.cell? ⟨(ad246.add ((x9_1).toNat * 7)).block, (ad246.add ((x9_1).toNat * 7)).off + 6, none⟩ = some (.slice A246_6 ((rd_T38 l0 x9_1).f5).length c246_6) := hS_
     obtain ⟨Ao19, co19, eo19⟩ := Kd.V_slice HO249.out
     (first | subst eo19 | (injection eo19 with f1_ f2_ f3_; have f4_ := f1_.symm; have f5_ := f3_.symm; clear f1_ f2_ f3_; subst f4_; subst f5_))
     refine norm_ (a' := ?_) ?_ ?_; rotate_left; (simp only [putAll, Act.put, List.setIfInBounds_toArray, List.set_cons_zero, List.set_cons_succ]; rfl)
     refine one_ (i := 11) (N := none) bN25_ rfl rfl (one_of HT_.out (by kernel_rfl)) (by decide) (fun K hK => ?_)
     have hs20 : w18.cell? ⟨gb255, 0, none⟩ = some (.slice none 0 0) := (blk_cell BK255.out 0).trans rfl
     have hfs20 := blk_frozen BK255.out 0
     have hns20_0 := NB243_255.out
     have hns20_1 := NB245_255.out
     have hns20_3 := NB256_255.out
     have hms20_0 := NB255_243.out
     have hms20_1 := NB255_245.out
     have hms20_3 := NB255_256.out
     refine skip_ (w1 := ?_) (by rfl) rfl ?_ ?_
     rotate_left
     ·go_simp
      rfl
     refine hK.out _ _ ⟨((cell_far (p := ⟨gb255, _, none⟩) NB245_255.out _).trans (hHeld.1)), ((cell_far (p := ⟨gb255, _, none⟩) (fz_ hw246_0 GW255) _).trans (hHeld.2.1)), ((cell_far (p := ⟨gb255, _, none⟩) (fz_ hw246_1 GW255) _).trans (hHeld.2.2.1)), ((cell_far (p := ⟨gb255, _, none⟩) (fz_ hw246_2 GW255) _).trans (hHeld.2.2.2.1)), ((cell_far (p := ⟨gb255, _, none⟩) (fz_ hw246_3 GW255) _).trans (hHeld.2.2.2.2.1)), ((cell_far (p := ⟨gb255, _, none⟩) (fz_ hw246_4 GW255) _).trans (hHeld.2.2.2.2.2.1)), ((cell_far (p := ⟨gb255, _, none⟩) (fz_ hw246_5 GW255) _).trans (hHeld.2.2.2.2.2.2.1)), ((cell_far (p := ⟨gb255, _, none⟩) (fz_ hw246_6 GW255) _).trans (hHeld.2.2.2.2.2.2.2))⟩ (fun hHeld => ?_)
     clear hK K
     refine one_ (i := 12) (N := none) bN26_ rfl rfl (one_of HT_.out (by kernel_rfl)) (by decide) (fun K hK => ?_)
     have hs21 : w18.cell? ⟨gb256, 0, none⟩ = some (.int .i64 0) := (blk_cell BK256.out 0).trans rfl
     have hfs21 := blk_frozen BK256.out 0
     have hns21_0 := NB243_256.out
     have hns21_1 := NB245_256.out
     have hns21_2 := NB255_256.out
     have hms21_0 := NB256_243.out
     have hms21_1 := NB256_245.out
     have hms21_2 := NB256_255.out
     have hs22 : w18.cell? ⟨gb256, 1, none⟩ = some (.string (⟨#[]⟩ : ByteArray)) := (blk_cell BK256.out 1).trans rfl
     have hfs22 := blk_frozen BK256.out 1
     have hns22_0 := NB243_256.out
     have hns22_1 := NB245_256.out
     have hns22_2 := NB255_256.out
     have hms22_0 := NB256_243.out
     have hms22_1 := NB256_245.out
     have hms22_2 := NB256_255.out
     have hs23 : w18.cell? ⟨gb256, 2, none⟩ = some (.int .u64 0) := (blk_cell BK256.out 2).trans rfl
     have hfs23 := blk_frozen BK256.out 2
     have hns23_0 := NB243_256.out
     have hns23_1 := NB245_256.out
     have hns23_2 := NB255_256.out
     have hms23_0 := NB256_243.out
     have hms23_1 := NB256_245.out
     have hms23_2 := NB256_255.out
     have hs24 : w18.cell? ⟨gb256, 3, none⟩ = some (.bool false) := (blk_cell BK256.out 3).trans rfl
     have hfs24 := blk_frozen BK256.out 3
     have hns24_0 := NB243_256.out
     have hns24_1 := NB245_256.out
     have hns24_2 := NB255_256.out
     have hms24_0 := NB256_243.out
     have hms24_1 := NB256_245.out
     have hms24_2 := NB256_255.out
     have hs25 : w18.cell? ⟨gb256, 4, none⟩ = some (.bool false) := (blk_cell BK256.out 4).trans rfl
     have hfs25 := blk_frozen BK256.out 4
     have hns25_0 := NB243_256.out
     have hns25_1 := NB245_256.out
     have hns25_2 := NB255_256.out
     have hms25_0 := NB256_243.out
     have hms25_1 := NB256_245.out
     have hms25_2 := NB256_255.out
     refine skip_ (w1 := ?_) (by rfl) rfl ?_ ?_
     rotate_left
     ·go_simp
      rfl
     refine hK.out _ _ ⟨((cell_far (p := ⟨gb256, _, none⟩) NB245_256.out _).trans (((cell_far (p := ⟨gb256, _, none⟩) NB245_256.out _).trans (((cell_far (p := ⟨gb256, _, none⟩) NB245_256.out _).trans (((cell_far (p := ⟨gb256, _, none⟩) NB245_256.out _).trans (((cell_far (p := ⟨gb256, _, none⟩) NB245_256.out _).trans (hHeld.1)))))))))), ((cell_far (p := ⟨gb256, _, none⟩) (fz_ hw246_0 GW256) _).trans (((cell_far (p := ⟨gb256, _, none⟩) (fz_ hw246_0 GW256) _).trans (((cell_far (p := ⟨gb256, _, none⟩) (fz_ hw246_0 GW256) _).trans (((cell_far (p := ⟨gb256, _, none⟩) (fz_ hw246_0 GW256) _).trans (((cell_far (p := ⟨gb256, _, none⟩) (fz_ hw246_0 GW256) _).trans (hHeld.2.1)))))))))), ((cell_far (p := ⟨gb256, _, none⟩) (fz_ hw246_1 GW256) _).trans (((cell_far (p := ⟨gb256, _, none⟩) (fz_ hw246_1 GW256) _).trans (((cell_far (p := ⟨gb256, _, none⟩) (fz_ hw246_1 GW256) _).trans (((cell_far (p := ⟨gb256, _, none⟩) (fz_ hw246_1 GW256) _).trans (((cell_far (p := ⟨gb256, _, none⟩) (fz_ hw246_1 GW256) _).trans (hHeld.2.2.1)))))))))), ((cell_far (p := ⟨gb256, _, none⟩) (fz_ hw246_2 GW256) _).trans (((cell_far (p := ⟨gb256, _, none⟩) (fz_ hw246_2 GW256) _).trans (((cell_far (p := ⟨gb256, _, none⟩) (fz_ hw246_2 GW256) _).trans (((cell_far (p := ⟨gb256, _, none⟩) (fz_ hw246_2 GW256) _).trans (((cell_far (p := ⟨gb256, _, none⟩) (fz_ hw246_2 GW256) _).trans (hHeld.2.2.2.1)))))))))), ((cell_far (p := ⟨gb256, _, none⟩) (fz_ hw246_3 GW256) _).trans (((cell_far (p := ⟨gb256, _, none⟩) (fz_ hw246_3 GW256) _).trans (((cell_far (p := ⟨gb256, _, none⟩) (fz_ hw246_3 GW256) _).trans (((cell_far (p := ⟨gb256, _, none⟩) (fz_ hw246_3 GW256) _).trans (((cell_far (p := ⟨gb256, _, none⟩) (fz_ hw246_3 GW256) _).trans (hHeld.2.2.2.2.1)))))))))), ((cell_far (p := ⟨gb256, _, none⟩) (fz_ hw246_4 GW256) _).trans (((cell_far (p := ⟨gb256, _, none⟩) (fz_ hw246_4 GW256) _).trans (((cell_far (p := ⟨gb256, _, none⟩) (fz_ hw246_4 GW256) _).trans (((cell_far (p := ⟨gb256, _, none⟩) (fz_ hw246_4 GW256) _).trans (((cell_far (p := ⟨gb256, _, none⟩) (fz_ hw246_4 GW256) _).trans (hHeld.2.2.2.2.2.1)))))))))), ((cell_far (p := ⟨gb256, _, none⟩) (fz_ hw246_5 GW256) _).trans (((cell_far (p := ⟨gb256, _, none⟩) (fz_ hw246_5 GW256) _).trans (((cell_far (p := ⟨gb256, _, none⟩) (fz_ hw246_5 GW256) _).trans (((cell_far (p := ⟨gb256, _, none⟩) (fz_ hw246_5 GW256) _).trans (((cell_far (p := ⟨gb256, _, none⟩) (fz_ hw246_5 GW256) _).trans (hHeld.2.2.2.2.2.2.1)))))))))), ((cell_far (p := ⟨gb256, _, none⟩) (fz_ hw246_6 GW256) _).trans (((cell_far (p := ⟨gb256, _, none⟩) (fz_ hw246_6 GW256) _).trans (((cell_far (p := ⟨gb256, _, none⟩) (fz_ hw246_6 GW256) _).trans (((cell_far (p := ⟨gb256, _, none⟩) (fz_ hw246_6 GW256) _).trans (((cell_far (p := ⟨gb256, _, none⟩) (fz_ hw246_6 GW256) _).trans (hHeld.2.2.2.2.2.2.2))))))))))⟩ (fun hHeld => ?_)
     clear hK K
     refine done_ (done_of HT_.out (by kernel_rfl)) ?_
     go_upto_region 9 with (fail)
     go_cut [58] (fun v58 wc => ∃ (kq : Nat) (x58_11 : Bool), v58 = .bool x58_11 ∧ Aside0 (ferrulelaw14_CoordOnce.j1 kq l0 t244 x7_1 x8_1 x9_1 x58_11 a1_0 a1_1 t247 t250 t251 t252 t253 t254 = some r) ∧ Aside0 (kq ≤ k1) ∧ Aside0 (Kd.V k42 42 wc w.heap.size (fun k_ => k_ ≠ gb243 ∧ k_ ≠ gb245 ∧ k_ ≠ gb255 ∧ k_ ≠ gb256) (.slice Ao13 x246000_1.length co13) x246000_1) ∧ Aside0 (Kd.V k42 42 wc w.heap.size (fun k_ => k_ ≠ gb243 ∧ k_ ≠ gb245 ∧ k_ ≠ gb255 ∧ k_ ≠ gb256) (.slice Ao19 t247.length co19) t247) ∧ Aside0 (wc.heap[gb243]? = some (.cells #[.int .u64 a1_0, .int .u64 a1_1] 34 (0, 0))) ∧ Aside0 (wc.heap[gb245]? = some (.cells #[(.slice Ao13 x246000_1.length co13)] 26 (0, 0))) ∧ Aside0 (wc.heap[gb255]? = some (.cells #[(.slice Ao19 t247.length co19)] 26 (0, 0))) ∧ Aside0 (wc.heap[gb256]? = some (.cells #[.int .i64 t250, .string t251, .int .u64 t252, .bool t253, .bool t254] 30 (0, 0))) ∧ Aside0 (Below w.heap.size w wc))
     case first =>
      have H := HC12.out
      clear HC12
      by_cases c26 : (((rd_T38 l0 x9_1).f1.f0) == a1_0 && (((rd_T38 l0 x9_1).f1.f1) == a1_1)) = true
      ·rw [if_pos c26] at H
       have c26b0 : (((rd_T38 l0 x9_1).f1.f0) == a1_0 && (((rd_T38 l0 x9_1).f1.f1) == a1_1)) = true := c26
       (try (have c26b1 : decide (((rd_T38 l0 x9_1).f1.f0) = a1_0 && (((rd_T38 l0 x9_1).f1.f1) == a1_1)) = true := by simpa using c26))
       (try (have c26b2 : (((rd_T38 l0 x9_1).f1.f0) == a1_0 && (((rd_T38 l0 x9_1).f1.f1) == a1_1)) = true := by simpa using c26))
       clear c26
       (first | rw [c26b0] | (simp only [i64_w, i32_w]; rw [c26b0]) | skip)
       by_cases c27 : ((rd_T38 l0 x9_1).f0) = 6
       ·rw [if_pos c27] at H
        have c27b0 : (((rd_T38 l0 x9_1).f0) == 6) = true := beq_iff_eq.mpr c27
        have c27b1 : (((rd_T38 l0 x9_1).f0) != 6) = false := bne_eq_false_iff_eq.mpr c27
        clear c27
        have H' := am_ H
        clear H
        try go_wp2
        have n0_ : Aside0 (Kd.V k42 42 ((((((w18.setCell ⟨gb255, 0, none⟩ (.slice Ao19 t247.length co19)).setCell ⟨gb256, 0, none⟩ (.int .i64 t250)).setCell ⟨gb256, 1, none⟩ (.string t251)).setCell ⟨gb256, 2, none⟩ (.int .u64 t252)).setCell ⟨gb256, 3, none⟩ (.bool t253)).setCell ⟨gb256, 4, none⟩ (.bool t254)) w.heap.size (fun k_ => k_ ≠ gb243 ∧ k_ ≠ gb245 ∧ k_ ≠ gb255 ∧ k_ ≠ gb256) (.slice Ao13 x246000_1.length co13) x246000_1) := ⟨by (with_reducible repeat (first | apply Kd.V_alloc | apply Kd.V_drewN | apply Kd.V_drew)); exact Kd.V_mono (Kd.V_far (p := ⟨gb256, 4, none⟩) (Kd.V_far (p := ⟨gb256, 3, none⟩) (Kd.V_far (p := ⟨gb256, 2, none⟩) (Kd.V_far (p := ⟨gb256, 1, none⟩) (Kd.V_far (p := ⟨gb256, 0, none⟩) (Kd.V_far (p := ⟨gb255, 0, none⟩) (Kd.V_mono (Kd.V_mono HO_246000.out (fun k_ hk => (⟨hk, hk.2.2.1⟩ : _ ∧ k_ ≠ gb255))) (fun k_ hk => (⟨hk, hk.1.2.2.2⟩ : _ ∧ k_ ≠ gb256))) (fun _ hk => hk.1.2) (.slice Ao19 t247.length co19)) (fun _ hk => hk.2) (.int .i64 t250)) (fun _ hk => hk.2) (.string t251)) (fun _ hk => hk.2) (.int .u64 t252)) (fun _ hk => hk.2) (.bool t253)) (fun _ hk => hk.2) (.bool t254)) (fun _ hk => ⟨hk.1.1.1, ⟨hk.1.1.2.1, ⟨hk.1.1.2.2.1, hk.1.1.2.2.2⟩⟩⟩)⟩
        have n1_ : Aside0 (Kd.V k42 42 ((((((w18.setCell ⟨gb255, 0, none⟩ (.slice Ao19 t247.length co19)).setCell ⟨gb256, 0, none⟩ (.int .i64 t250)).setCell ⟨gb256, 1, none⟩ (.string t251)).setCell ⟨gb256, 2, none⟩ (.int .u64 t252)).setCell ⟨gb256, 3, none⟩ (.bool t253)).setCell ⟨gb256, 4, none⟩ (.bool t254)) w.heap.size (fun k_ => k_ ≠ gb243 ∧ k_ ≠ gb245 ∧ k_ ≠ gb255 ∧ k_ ≠ gb256) (.slice Ao19 t247.length co19) t247) := ⟨by (with_reducible repeat (first | apply Kd.V_alloc | apply Kd.V_drewN | apply Kd.V_drew)); exact Kd.V_mono (Kd.V_far (p := ⟨gb256, 4, none⟩) (Kd.V_far (p := ⟨gb256, 3, none⟩) (Kd.V_far (p := ⟨gb256, 2, none⟩) (Kd.V_far (p := ⟨gb256, 1, none⟩) (Kd.V_far (p := ⟨gb256, 0, none⟩) (Kd.V_far (p := ⟨gb255, 0, none⟩) (Kd.V_mono (Kd.V_mono HO249.out (fun k_ hk => (⟨hk, hk.2.2.1⟩ : _ ∧ k_ ≠ gb255))) (fun k_ hk => (⟨hk, hk.1.2.2.2⟩ : _ ∧ k_ ≠ gb256))) (fun _ hk => hk.1.2) (.slice Ao19 t247.length co19)) (fun _ hk => hk.2) (.int .i64 t250)) (fun _ hk => hk.2) (.string t251)) (fun _ hk => hk.2) (.int .u64 t252)) (fun _ hk => hk.2) (.bool t253)) (fun _ hk => hk.2) (.bool t254)) (fun _ hk => ⟨hk.1.1.1, ⟨hk.1.1.2.1, ⟨hk.1.1.2.2.1, hk.1.1.2.2.2⟩⟩⟩)⟩
        have n2_ : Aside0 (((((((w18.setCell ⟨gb255, 0, none⟩ (.slice Ao19 t247.length co19)).setCell ⟨gb256, 0, none⟩ (.int .i64 t250)).setCell ⟨gb256, 1, none⟩ (.string t251)).setCell ⟨gb256, 2, none⟩ (.int .u64 t252)).setCell ⟨gb256, 3, none⟩ (.bool t253)).setCell ⟨gb256, 4, none⟩ (.bool t254)).heap[gb243]? = some (.cells #[.int .u64 a1_0, .int .u64 a1_1] 34 (0, 0))) := ⟨by (with_reducible repeat (first | refine blk_drewN ?_ _ | refine blk_drew ?_ | refine blk_alloc ?_ _)); refine blk_far ?_ NB243_256.out _; (with_reducible repeat (first | refine blk_drewN ?_ _ | refine blk_drew ?_ | refine blk_alloc ?_ _)); refine blk_far ?_ NB243_256.out _; (with_reducible repeat (first | refine blk_drewN ?_ _ | refine blk_drew ?_ | refine blk_alloc ?_ _)); refine blk_far ?_ NB243_256.out _; (with_reducible repeat (first | refine blk_drewN ?_ _ | refine blk_drew ?_ | refine blk_alloc ?_ _)); refine blk_far ?_ NB243_256.out _; (with_reducible repeat (first | refine blk_drewN ?_ _ | refine blk_drew ?_ | refine blk_alloc ?_ _)); refine blk_far ?_ NB243_256.out _; (with_reducible repeat (first | refine blk_drewN ?_ _ | refine blk_drew ?_ | refine blk_alloc ?_ _)); refine blk_far ?_ NB243_255.out _; (with_reducible repeat (first | refine blk_drewN ?_ _ | refine blk_drew ?_ | refine blk_alloc ?_ _)); exact BK243.out⟩
        have n3_ : Aside0 (((((((w18.setCell ⟨gb255, 0, none⟩ (.slice Ao19 t247.length co19)).setCell ⟨gb256, 0, none⟩ (.int .i64 t250)).setCell ⟨gb256, 1, none⟩ (.string t251)).setCell ⟨gb256, 2, none⟩ (.int .u64 t252)).setCell ⟨gb256, 3, none⟩ (.bool t253)).setCell ⟨gb256, 4, none⟩ (.bool t254)).heap[gb245]? = some (.cells #[.slice Ao13 x246000_1.length co13] 26 (0, 0))) := ⟨by (with_reducible repeat (first | refine blk_drewN ?_ _ | refine blk_drew ?_ | refine blk_alloc ?_ _)); refine blk_far ?_ NB245_256.out _; (with_reducible repeat (first | refine blk_drewN ?_ _ | refine blk_drew ?_ | refine blk_alloc ?_ _)); refine blk_far ?_ NB245_256.out _; (with_reducible repeat (first | refine blk_drewN ?_ _ | refine blk_drew ?_ | refine blk_alloc ?_ _)); refine blk_far ?_ NB245_256.out _; (with_reducible repeat (first | refine blk_drewN ?_ _ | refine blk_drew ?_ | refine blk_alloc ?_ _)); refine blk_far ?_ NB245_256.out _; (with_reducible repeat (first | refine blk_drewN ?_ _ | refine blk_drew ?_ | refine blk_alloc ?_ _)); refine blk_far ?_ NB245_256.out _; (with_reducible repeat (first | refine blk_drewN ?_ _ | refine blk_drew ?_ | refine blk_alloc ?_ _)); refine blk_far ?_ NB245_255.out _; (with_reducible repeat (first | refine blk_drewN ?_ _ | refine blk_drew ?_ | refine blk_alloc ?_ _)); exact BK245.out⟩
        have n4_ : Aside0 (((((((w18.setCell ⟨gb255, 0, none⟩ (.slice Ao19 t247.length co19)).setCell ⟨gb256, 0, none⟩ (.int .i64 t250)).setCell ⟨gb256, 1, none⟩ (.string t251)).setCell ⟨gb256, 2, none⟩ (.int .u64 t252)).setCell ⟨gb256, 3, none⟩ (.bool t253)).setCell ⟨gb256, 4, none⟩ (.bool t254)).heap[gb255]? = some (.cells #[.slice Ao19 t247.length co19] 26 (0, 0))) := ⟨by (with_reducible repeat (first | refine blk_drewN ?_ _ | refine blk_drew ?_ | refine blk_alloc ?_ _)); refine blk_far ?_ NB255_256.out _; (with_reducible repeat (first | refine blk_drewN ?_ _ | refine blk_drew ?_ | refine blk_alloc ?_ _)); refine blk_far ?_ NB255_256.out _; (with_reducible repeat (first | refine blk_drewN ?_ _ | refine blk_drew ?_ | refine blk_alloc ?_ _)); refine blk_far ?_ NB255_256.out _; (with_reducible repeat (first | refine blk_drewN ?_ _ | refine blk_drew ?_ | refine blk_alloc ?_ _)); refine blk_far ?_ NB255_256.out _; (with_reducible repeat (first | refine blk_drewN ?_ _ | refine blk_drew ?_ | refine blk_alloc ?_ _)); refine blk_far ?_ NB255_256.out _; (with_reducible repeat (first | refine blk_drewN ?_ _ | refine blk_drew ?_ | refine blk_alloc ?_ _)); refine blk_put (cs := #[.slice none 0 0]) ?_ 0 _ rfl; (with_reducible repeat (first | refine blk_drewN ?_ _ | refine blk_drew ?_ | refine blk_alloc ?_ _)); exact BK255.out⟩
        have n5_ : Aside0 (((((((w18.setCell ⟨gb255, 0, none⟩ (.slice Ao19 t247.length co19)).setCell ⟨gb256, 0, none⟩ (.int .i64 t250)).setCell ⟨gb256, 1, none⟩ (.string t251)).setCell ⟨gb256, 2, none⟩ (.int .u64 t252)).setCell ⟨gb256, 3, none⟩ (.bool t253)).setCell ⟨gb256, 4, none⟩ (.bool t254)).heap[gb256]? = some (.cells #[.int .i64 t250, .string t251, .int .u64 t252, .bool t253, .bool t254] 30 (0, 0))) := ⟨by (with_reducible repeat (first | refine blk_drewN ?_ _ | refine blk_drew ?_ | refine blk_alloc ?_ _)); refine blk_put (cs := #[.int .i64 t250, .string t251, .int .u64 t252, .bool t253, .bool false]) ?_ 4 _ rfl; (with_reducible repeat (first | refine blk_drewN ?_ _ | refine blk_drew ?_ | refine blk_alloc ?_ _)); refine blk_put (cs := #[.int .i64 t250, .string t251, .int .u64 t252, .bool false, .bool false]) ?_ 3 _ rfl; (with_reducible repeat (first | refine blk_drewN ?_ _ | refine blk_drew ?_ | refine blk_alloc ?_ _)); refine blk_put (cs := #[.int .i64 t250, .string t251, .int .u64 0, .bool false, .bool false]) ?_ 2 _ rfl; (with_reducible repeat (first | refine blk_drewN ?_ _ | refine blk_drew ?_ | refine blk_alloc ?_ _)); refine blk_put (cs := #[.int .i64 t250, .string (⟨#[]⟩ : ByteArray), .int .u64 0, .bool false, .bool false]) ?_ 1 _ rfl; (with_reducible repeat (first | refine blk_drewN ?_ _ | refine blk_drew ?_ | refine blk_alloc ?_ _)); refine blk_put (cs := #[.int .i64 0, .string (⟨#[]⟩ : ByteArray), .int .u64 0, .bool false, .bool false]) ?_ 0 _ rfl; (with_reducible repeat (first | refine blk_drewN ?_ _ | refine blk_drew ?_ | refine blk_alloc ?_ _)); refine blk_far ?_ NB256_255.out _; (with_reducible repeat (first | refine blk_drewN ?_ _ | refine blk_drew ?_ | refine blk_alloc ?_ _)); exact BK256.out⟩
        have n6_ : Aside0 (Below w.heap.size w ((((((w18.setCell ⟨gb255, 0, none⟩ (.slice Ao19 t247.length co19)).setCell ⟨gb256, 0, none⟩ (.int .i64 t250)).setCell ⟨gb256, 1, none⟩ (.string t251)).setCell ⟨gb256, 2, none⟩ (.int .u64 t252)).setCell ⟨gb256, 3, none⟩ (.bool t253)).setCell ⟨gb256, 4, none⟩ (.bool t254))) := ⟨hx_ HB⟩
        (try clear HO_246000)
        (try clear HO249)
        (try clear BK243)
        (try clear BK245)
        (try clear BK255)
        (try clear BK256)
        (try clear HB)
        generalize ((((((w18.setCell ⟨gb255, 0, none⟩ (.slice Ao19 t247.length co19)).setCell ⟨gb256, 0, none⟩ (.int .i64 t250)).setCell ⟨gb256, 1, none⟩ (.string t251)).setCell ⟨gb256, 2, none⟩ (.int .u64 t252)).setCell ⟨gb256, 3, none⟩ (.bool t253)).setCell ⟨gb256, 4, none⟩ (.bool t254)) = w28 at n0_ n1_ n2_ n3_ n4_ n5_ n6_ ⊢
        have HO_246000 := n0_
        have HO249 := n1_
        have BK243 := n2_
        have BK245 := n3_
        have BK255 := n4_
        have BK256 := n5_
        have HB := n6_
        clear n0_ n1_ n2_ n3_ n4_ n5_ n6_
        have n0_ := am_ (Kd.V_drew HO_246000.out)
        have n1_ := am_ (Kd.V_drew HO249.out)
        have n2_ := am_ (blk_drew BK243.out)
        have n3_ := am_ (blk_drew BK245.out)
        have n4_ := am_ (blk_drew BK255.out)
        have n5_ := am_ (blk_drew BK256.out)
        have n6_ := am_ (below_drew1 HB.out)
        clear HO_246000
        clear HO249
        clear BK243
        clear BK245
        clear BK255
        clear BK256
        clear HB
        have HO_246000 := n0_
        have HO249 := n1_
        have BK243 := n2_
        have BK245 := n3_
        have BK255 := n4_
        have BK256 := n5_
        have HB := n6_
        clear n0_ n1_ n2_ n3_ n4_ n5_ n6_
        have p257 : 0 ≤ (x9_1 : Int) := of_decide_eq_true (by first | (with_reducible assumption) | assumption)
        have q257 : x9_1 < (l0.length : Int) := of_decide_eq_true (by first | (with_reducible assumption) | assumption)
        obtain ⟨ad257, A257_4, c257_4, A257_6, c257_6, e257, hx257_0, hx257_1, hx257_2, hx257_3, hx257_4, hx257_5, hx257_6, hl257_4, hi257_4, hl257_6, hi257_6⟩ := at_T38 HR0.out x9_1 p257 q257
        have hw257_6 := hx257_6
        have hw257_5 := hx257_5
        have hw257_4 := hx257_4
        have hw257_3 := hx257_3
        have hw257_2 := hx257_2
        have hw257_1 := hx257_1
        have hw257_0 := hx257_0
        obtain rfl : ad246 = ad257 := (by injection e257)
        replace hx257_0 := (HB.out.cell (World.block_lt_of_cell? w _ hx257_0)).trans hx257_0
        replace hx257_1 := (HB.out.cell (World.block_lt_of_cell? w _ hx257_1)).trans hx257_1
        replace hx257_2 := (HB.out.cell (World.block_lt_of_cell? w _ hx257_2)).trans hx257_2
        replace hx257_3 := (HB.out.cell (World.block_lt_of_cell? w _ hx257_3)).trans hx257_3
        replace hx257_4 := (HB.out.cell (World.block_lt_of_cell? w _ hx257_4)).trans hx257_4
        replace hx257_5 := (HB.out.cell (World.block_lt_of_cell? w _ hx257_5)).trans hx257_5
        replace hx257_6 := (HB.out.cell (World.block_lt_of_cell? w _ hx257_6)).trans hx257_6
        have HR257_4 := am_ hi257_4
        have HC257_4 := am_ hl257_4
        clear hi257_4 hl257_4
        have HR257_6 := am_ hi257_6
        have HC257_6 := am_ hl257_6
        clear hi257_6 hl257_6
        replace p257 := eq_true p257
        replace q257 := eq_true q257
        have p258 : 0 ≤ (x9_1 : Int) := of_decide_eq_true (by first | (with_reducible assumption) | assumption)
        have q258 : x9_1 < (l0.length : Int) := of_decide_eq_true (by first | (with_reducible assumption) | assumption)
        obtain ⟨ad258, A258_4, c258_4, A258_6, c258_6, e258, hx258_0, hx258_1, hx258_2, hx258_3, hx258_4, hx258_5, hx258_6, hl258_4, hi258_4, hl258_6, hi258_6⟩ := at_T38 HR0.out x9_1 p258 q258
        have hw258_6 := hx258_6
        have hw258_5 := hx258_5
        have hw258_4 := hx258_4
        have hw258_3 := hx258_3
        have hw258_2 := hx258_2
        have hw258_1 := hx258_1
        have hw258_0 := hx258_0
        obtain rfl : ad246 = ad258 := (by injection e258)
        replace hx258_0 := (HB.out.cell (World.block_lt_of_cell? w _ hx258_0)).trans hx258_0
        replace hx258_1 := (HB.out.cell (World.block_lt_of_cell? w _ hx258_1)).trans hx258_1
        replace hx258_2 := (HB.out.cell (World.block_lt_of_cell? w _ hx258_2)).trans hx258_2
        replace hx258_3 := (HB.out.cell (World.block_lt_of_cell? w _ hx258_3)).trans hx258_3
        replace hx258_4 := (HB.out.cell (World.block_lt_of_cell? w _ hx258_4)).trans hx258_4
        replace hx258_5 := (HB.out.cell (World.block_lt_of_cell? w _ hx258_5)).trans hx258_5
        replace hx258_6 := (HB.out.cell (World.block_lt_of_cell? w _ hx258_6)).trans hx258_6
        have HR258_4 := am_ hi258_4
        have HC258_4 := am_ hl258_4
        clear hi258_4 hl258_4
        have HR258_6 := am_ hi258_6
        have HC258_6 := am_ hl258_6
        clear hi258_6 hl258_6
        replace p258 := eq_true p258
        replace q258 := eq_true q258
        have ea_ := Option.some.inj (hx257_4.symm.trans hx258_4)
        injection ea_ with ea_ en_ ec_
        subst ea_
        subst ec_
        clear en_
        have ea_ := Option.some.inj (hx257_6.symm.trans hx258_6)
        injection ea_ with ea_ en_ ec_
        subst ea_
        subst ec_
        clear en_
        refine start_ (n := 28) (S := fun w' => w'.cell? ⟨gb243, 0, none⟩ = some (.int .u64 a1_0) ∧ w'.cell? ⟨gb243, 1, none⟩ = some (.int .u64 a1_1) ∧ w'.cell? ⟨gb256, 0, none⟩ = some (.int .i64 t250) ∧ w'.cell? ⟨gb256, 1, none⟩ = some (.string t251) ∧ w'.cell? ⟨gb256, 2, none⟩ = some (.int .u64 t252) ∧ w'.cell? ⟨gb256, 3, none⟩ = some (.bool t253) ∧ w'.cell? ⟨gb256, 4, none⟩ = some (.bool t254) ∧ w'.cell? (ad246.add ((x9_1).toNat * 7)) = some (.int .i64 ((rd_T38 l0 x9_1).f0)) ∧ w'.cell? ⟨(ad246.add ((x9_1).toNat * 7)).block, (ad246.add ((x9_1).toNat * 7)).off + 1, none⟩ = some (.int .u64 ((rd_T38 l0 x9_1).f1.f0)) ∧ w'.cell? ⟨(ad246.add ((x9_1).toNat * 7)).block, (ad246.add ((x9_1).toNat * 7)).off + 2, none⟩ = some (.int .u64 ((rd_T38 l0 x9_1).f1.f1)) ∧ w'.cell? ⟨(ad246.add ((x9_1).toNat * 7)).block, (ad246.add ((x9_1).toNat * 7)).off + 3, none⟩ = some (.string ((rd_T38 l0 x9_1).f2)) ∧ w'.cell? ⟨(ad246.add ((x9_1).toNat * 7)).block, (ad246.add ((x9_1).toNat * 7)).off + 4, none⟩ = some (.slice A257_4 ((rd_T38 l0 x9_1).f3).length c257_4) ∧ w'.cell? ⟨(ad246.add ((x9_1).toNat * 7)).block, (ad246.add ((x9_1).toNat * 7)).off + 5, none⟩ = some (.bool ((rd_T38 l0 x9_1).f4)) ∧ w'.cell? ⟨(ad246.add ((x9_1).toNat * 7)).block, (ad246.add ((x9_1).toNat * 7)).off + 6, none⟩ = some (.slice A257_6 ((rd_T38 l0 x9_1).f5).length c257_6) ∧ w'.cell? (ad246.add ((x9_1).toNat * 7)) = some (.int .i64 ((rd_T38 l0 x9_1).f0)) ∧ w'.cell? ⟨(ad246.add ((x9_1).toNat * 7)).block, (ad246.add ((x9_1).toNat * 7)).off + 1, none⟩ = some (.int .u64 ((rd_T38 l0 x9_1).f1.f0)) ∧ w'.cell? ⟨(ad246.add ((x9_1).toNat * 7)).block, (ad246.add ((x9_1).toNat * 7)).off + 2, none⟩ = some (.int .u64 ((rd_T38 l0 x9_1).f1.f1)) ∧ w'.cell? ⟨(ad246.add ((x9_1).toNat * 7)).block, (ad246.add ((x9_1).toNat * 7)).off + 3, none⟩ = some (.string ((rd_T38 l0 x9_1).f2)) ∧ w'.cell? ⟨(ad246.add ((x9_1).toNat * 7)).block, (ad246.add ((x9_1).toNat * 7)).off + 4, none⟩ = some (.slice A257_4 ((rd_T38 l0 x9_1).f3).length c257_4) ∧ w'.cell? ⟨(ad246.add ((x9_1).toNat * 7)).block, (ad246.add ((x9_1).toNat * 7)).off + 5, none⟩ = some (.bool ((rd_T38 l0 x9_1).f4)) ∧ w'.cell? ⟨(ad246.add ((x9_1).toNat * 7)).block, (ad246.add ((x9_1).toNat * 7)).off + 6, none⟩ = some (.slice A257_6 ((rd_T38 l0 x9_1).f5).length c257_6)) (ds := []) bN27_ (by kernel_rfl) rfl rfl ⟨(blk_cell BK243.out 0).trans rfl, (blk_cell BK243.out 1).trans rfl, (blk_cell BK256.out 0).trans rfl, (blk_cell BK256.out 1).trans rfl, (blk_cell BK256.out 2).trans rfl, (blk_cell BK256.out 3).trans rfl, (blk_cell BK256.out 4).trans rfl, ((HB.out.cell (World.block_lt_of_cell? w _ hw257_0)).trans hw257_0), ((HB.out.cell (World.block_lt_of_cell? w _ hw257_1)).trans hw257_1), ((HB.out.cell (World.block_lt_of_cell? w _ hw257_2)).trans hw257_2), ((HB.out.cell (World.block_lt_of_cell? w _ hw257_3)).trans hw257_3), ((HB.out.cell (World.block_lt_of_cell? w _ hw257_4)).trans hw257_4), ((HB.out.cell (World.block_lt_of_cell? w _ hw257_5)).trans hw257_5), ((HB.out.cell (World.block_lt_of_cell? w _ hw257_6)).trans hw257_6), ((HB.out.cell (World.block_lt_of_cell? w _ hw258_0)).trans hw258_0), ((HB.out.cell (World.block_lt_of_cell? w _ hw258_1)).trans hw258_1), ((HB.out.cell (World.block_lt_of_cell? w _ hw258_2)).trans hw258_2), ((HB.out.cell (World.block_lt_of_cell? w _ hw258_3)).trans hw258_3), ((HB.out.cell (World.block_lt_of_cell? w _ hw258_4)).trans hw258_4), ((HB.out.cell (World.block_lt_of_cell? w _ hw258_5)).trans hw258_5), ((HB.out.cell (World.block_lt_of_cell? w _ hw258_6)).trans hw258_6)⟩ (fun hHeld => ?_); refine with_tabW ferrulelaw14_CoordOnce.tab9 ferrulelaw14_CoordOnce.bits9 (fun HT_ HW_ => ?_)
        generalize w28.drew = w29 at HO_246000 HO249 BK243 BK245 BK255 BK256 HB HR257_4 HR257_6 HR258_4 HR258_6 hx257_0 hx257_1 hx257_2 hx257_3 hx257_4 hx257_5 hx257_6 hx258_0 hx258_1 hx258_2 hx258_3 hx258_4 hx258_5 hx258_6 hHeld ⊢
        refine pure_ (i := 0) (N := some 31) (v := ?_) (a' := ?_) bN28_ rfl rfl (any_of HT_.out (by kernel_rfl)) (fun _ _ _ h => h) (Or.inl ⟨by rfl, ?_⟩) ?_ ?_; rotate_left; (intro w'; go_simp; with_reducible rfl); rotate_left; (simp only [Act.put, List.setIfInBounds_toArray, List.set_cons_zero, List.set_cons_succ, i64_w, i32_w]; rfl)
        refine pure_ (i := 1) (N := some 32) (v := ?_) (a' := ?_) bN29_ rfl rfl (any_of HT_.out (by kernel_rfl)) (fun _ _ _ h => h) (Or.inl ⟨by rfl, ?_⟩) ?_ ?_; rotate_left; (intro w'; go_simp; with_reducible rfl); rotate_left; (simp only [Act.put, List.setIfInBounds_toArray, List.set_cons_zero, List.set_cons_succ, i64_w, i32_w]; rfl)
        refine pure_ (i := 2) (N := some 33) (v := ?_) (a' := ?_) bN30_ rfl rfl (any_of HT_.out (by kernel_rfl)) (fun _ _ _ h => h) (Or.inl ⟨by rfl, ?_⟩) ?_ ?_; rotate_left; (intro w'; go_simp; with_reducible rfl); rotate_left; (simp only [Act.put, List.setIfInBounds_toArray, List.set_cons_zero, List.set_cons_succ, i64_w, i32_w]; rfl)
        refine pure_ (i := 3) (N := some 34) (v := ?_) (a' := ?_) bN31_ rfl rfl (any_of HT_.out (by kernel_rfl)) (fun _ _ _ h => h) (Or.inl ⟨by rfl, ?_⟩) ?_ ?_; rotate_left; (intro w'; go_simp; with_reducible rfl); rotate_left; (simp only [Act.put, List.setIfInBounds_toArray, List.set_cons_zero, List.set_cons_succ, i64_w, i32_w]; rfl)
        refine take_ (i := 4) (N := some 35) (v := ?_) (a' := ?_) bN32_ rfl rfl (take_ofW HT_.out HW_.out (by kernel_rfl)) (fun _ _ _ h => h) (Or.inl ⟨by rfl, ?_⟩) hHeld ?_ ?_; rotate_left; (rintro w' ⟨s0, s1, s2, s3, s4, s5, s6, s7, s8, s9, s10, s11, s12, s13, s14, s15, s16, s17, s18, s19, s20⟩; go_simp; with_reducible rfl); rotate_left; (simp only [Act.put, List.setIfInBounds_toArray, List.set_cons_zero, List.set_cons_succ, i64_w, i32_w]; rfl)
        refine take_ (i := 5) (N := some 36) (v := ?_) (a' := ?_) bN33_ rfl rfl (take_ofW HT_.out HW_.out (by kernel_rfl)) (fun _ _ _ h => h) (Or.inl ⟨by rfl, ?_⟩) hHeld ?_ ?_; rotate_left; (rintro w' ⟨s0, s1, s2, s3, s4, s5, s6, s7, s8, s9, s10, s11, s12, s13, s14, s15, s16, s17, s18, s19, s20⟩; go_simp; with_reducible rfl); rotate_left; (simp only [Act.put, List.setIfInBounds_toArray, List.set_cons_zero, List.set_cons_succ, i64_w, i32_w]; rfl)
        refine pure_ (i := 6) (N := some 37) (v := ?_) (a' := ?_) bN34_ rfl rfl (any_of HT_.out (by kernel_rfl)) (fun _ _ _ h => h) (Or.inl ⟨by rfl, ?_⟩) ?_ ?_; rotate_left; (intro w'; go_simp; with_reducible rfl); rotate_left; (simp only [Act.put, List.setIfInBounds_toArray, List.set_cons_zero, List.set_cons_succ, i64_w, i32_w]; rfl)
        refine pure_ (i := 7) (N := some 38) (v := ?_) (a' := ?_) bN35_ rfl rfl (any_of HT_.out (by kernel_rfl)) (fun _ _ _ h => h) (Or.inl ⟨by rfl, ?_⟩) ?_ ?_; rotate_left; (intro w'; go_simp; with_reducible rfl); rotate_left; (simp only [Act.put, List.setIfInBounds_toArray, List.set_cons_zero, List.set_cons_succ, i64_w, i32_w]; rfl)
        refine pure_ (i := 8) (N := some 39) (v := ?_) (a' := ?_) bN36_ rfl rfl (any_of HT_.out (by kernel_rfl)) (fun _ _ _ h => h) (Or.inl ⟨by rfl, ?_⟩) ?_ ?_; rotate_left; (intro w'; go_simp; with_reducible rfl); rotate_left; (simp only [Act.put, List.setIfInBounds_toArray, List.set_cons_zero, List.set_cons_succ, i64_w, i32_w]; rfl)
        refine pure_ (i := 9) (N := some 40) (v := ?_) (a' := ?_) bN37_ rfl rfl (any_of HT_.out (by kernel_rfl)) (fun _ _ _ h => h) (Or.inl ⟨by rfl, ?_⟩) ?_ ?_; rotate_left; (intro w'; go_simp; with_reducible rfl); rotate_left; (simp only [Act.put, List.setIfInBounds_toArray, List.set_cons_zero, List.set_cons_succ, i64_w, i32_w]; rfl)
        refine pure_ (i := 10) (N := some 41) (v := ?_) (a' := ?_) bN38_ rfl rfl (any_of HT_.out (by kernel_rfl)) (fun _ _ _ h => h) (Or.inl ⟨by rfl, ?_⟩) ?_ ?_; rotate_left; (intro w'; go_simp; with_reducible rfl); rotate_left; (simp only [Act.put, List.setIfInBounds_toArray, List.set_cons_zero, List.set_cons_succ, i64_w, i32_w]; rfl)
        refine pure_ (i := 11) (N := some 42) (v := ?_) (a' := ?_) bN39_ rfl rfl (any_of HT_.out (by kernel_rfl)) (fun _ _ _ h => h) (Or.inl ⟨by rfl, ?_⟩) ?_ ?_; rotate_left; (intro w'; go_simp; with_reducible rfl); rotate_left; (simp only [Act.put, List.setIfInBounds_toArray, List.set_cons_zero, List.set_cons_succ, i64_w, i32_w]; rfl)
        refine take_ (i := 12) (N := some 43) (v := ?_) (a' := ?_) bN40_ rfl rfl (take_ofW HT_.out HW_.out (by kernel_rfl)) (fun _ _ _ h => h) (Or.inl ⟨by rfl, ?_⟩) hHeld ?_ ?_; rotate_left; (rintro w' ⟨s0, s1, s2, s3, s4, s5, s6, s7, s8, s9, s10, s11, s12, s13, s14, s15, s16, s17, s18, s19, s20⟩; go_simp; with_reducible rfl); rotate_left; (simp only [Act.put, List.setIfInBounds_toArray, List.set_cons_zero, List.set_cons_succ, i64_w, i32_w]; rfl)
        refine pure_ (i := 13) (N := some 44) (v := ?_) (a' := ?_) bN41_ rfl rfl (any_of HT_.out (by kernel_rfl)) (fun _ _ _ h => h) (Or.inl ⟨by rfl, ?_⟩) ?_ ?_; rotate_left; (intro w'; go_simp; with_reducible rfl); rotate_left; (simp only [Act.put, List.setIfInBounds_toArray, List.set_cons_zero, List.set_cons_succ, i64_w, i32_w]; rfl)
        refine pure_ (i := 14) (N := some 45) (v := ?_) (a' := ?_) bN42_ rfl rfl (any_of HT_.out (by kernel_rfl)) (fun _ _ _ h => h) (Or.inl ⟨by rfl, ?_⟩) ?_ ?_; rotate_left; (intro w'; go_simp; with_reducible rfl); rotate_left; (simp only [Act.put, List.setIfInBounds_toArray, List.set_cons_zero, List.set_cons_succ, i64_w, i32_w]; rfl)
        refine pure_ (i := 15) (N := some 46) (v := undef) (a' := ?_) bN43_ rfl rfl (any_of HT_.out (by kernel_rfl)) (fun _ _ _ h => h) (Or.inr ⟨by rfl, rfl⟩) ?_ ?_; rotate_left; (simp only [Act.put, List.setIfInBounds_toArray, List.set_cons_zero, List.set_cons_succ, i64_w, i32_w]; rfl)
        refine pure_ (i := 16) (N := some 47) (v := undef) (a' := ?_) bN44_ rfl rfl (any_of HT_.out (by kernel_rfl)) (fun _ _ _ h => h) (Or.inr ⟨by rfl, rfl⟩) ?_ ?_; rotate_left; (simp only [Act.put, List.setIfInBounds_toArray, List.set_cons_zero, List.set_cons_succ, i64_w, i32_w]; rfl)
        refine pure_ (i := 17) (N := some 48) (v := undef) (a' := ?_) bN45_ rfl rfl (any_of HT_.out (by kernel_rfl)) (fun _ _ _ h => h) (Or.inr ⟨by rfl, rfl⟩) ?_ ?_; rotate_left; (simp only [Act.put, List.setIfInBounds_toArray, List.set_cons_zero, List.set_cons_succ, i64_w, i32_w]; rfl)
        refine pure_ (i := 18) (N := some 49) (v := undef) (a' := ?_) bN46_ rfl rfl (any_of HT_.out (by kernel_rfl)) (fun _ _ _ h => h) (Or.inr ⟨by rfl, rfl⟩) ?_ ?_; rotate_left; (simp only [Act.put, List.setIfInBounds_toArray, List.set_cons_zero, List.set_cons_succ, i64_w, i32_w]; rfl)
        refine pure_ (i := 19) (N := some 50) (v := undef) (a' := ?_) bN47_ rfl rfl (any_of HT_.out (by kernel_rfl)) (fun _ _ _ h => h) (Or.inr ⟨by rfl, rfl⟩) ?_ ?_; rotate_left; (simp only [Act.put, List.setIfInBounds_toArray, List.set_cons_zero, List.set_cons_succ, i64_w, i32_w]; rfl)
        refine pure_ (i := 20) (N := some 51) (v := undef) (a' := ?_) bN48_ rfl rfl (any_of HT_.out (by kernel_rfl)) (fun _ _ _ h => h) (Or.inr ⟨by rfl, rfl⟩) ?_ ?_; rotate_left; (simp only [Act.put, List.setIfInBounds_toArray, List.set_cons_zero, List.set_cons_succ, i64_w, i32_w]; rfl)
        refine pure_ (i := 21) (N := some 52) (v := ?_) (a' := ?_) bN49_ rfl rfl (any_of HT_.out (by kernel_rfl)) (fun _ _ _ h => h) (Or.inl ⟨by rfl, ?_⟩) ?_ ?_; rotate_left; (intro w'; go_simp; with_reducible rfl); rotate_left; (simp only [Act.put, List.setIfInBounds_toArray, List.set_cons_zero, List.set_cons_succ, i64_w, i32_w]; rfl)
        refine pure_ (i := 22) (N := some 53) (v := ?_) (a' := ?_) bN50_ rfl rfl (any_of HT_.out (by kernel_rfl)) (fun _ _ _ h => h) (Or.inl ⟨by rfl, ?_⟩) ?_ ?_; rotate_left; (intro w'; go_simp; with_reducible rfl); rotate_left; (simp only [Act.put, List.setIfInBounds_toArray, List.set_cons_zero, List.set_cons_succ, i64_w, i32_w]; rfl)
        refine pure_ (i := 23) (N := some 54) (v := ?_) (a' := ?_) bN51_ rfl rfl (any_of HT_.out (by kernel_rfl)) (fun _ _ _ h => h) (Or.inl ⟨by rfl, ?_⟩) ?_ ?_; rotate_left; (intro w'; go_simp; with_reducible rfl); rotate_left; (simp only [Act.put, List.setIfInBounds_toArray, List.set_cons_zero, List.set_cons_succ, i64_w, i32_w]; rfl)
        refine pure_ (i := 24) (N := some 55) (v := ?_) (a' := ?_) bN52_ rfl rfl (any_of HT_.out (by kernel_rfl)) (fun _ _ _ h => h) (Or.inl ⟨by rfl, ?_⟩) ?_ ?_; rotate_left; (intro w'; go_simp; with_reducible rfl); rotate_left; (simp only [Act.put, List.setIfInBounds_toArray, List.set_cons_zero, List.set_cons_succ, i64_w, i32_w]; rfl)
        refine take_ (i := 25) (N := some 56) (v := ?_) (a' := ?_) bN53_ rfl rfl (take_ofW HT_.out HW_.out (by kernel_rfl)) (fun _ _ _ h => h) (Or.inl ⟨by rfl, ?_⟩) hHeld ?_ ?_; rotate_left; (rintro w' ⟨s0, s1, s2, s3, s4, s5, s6, s7, s8, s9, s10, s11, s12, s13, s14, s15, s16, s17, s18, s19, s20⟩; go_simp; with_reducible rfl); rotate_left; (simp only [Act.put, List.setIfInBounds_toArray, List.set_cons_zero, List.set_cons_succ, i64_w, i32_w]; rfl)
        refine pure_ (i := 26) (N := some 57) (v := ?_) (a' := ?_) bN54_ rfl rfl (any_of HT_.out (by kernel_rfl)) (fun _ _ _ h => h) (Or.inl ⟨by rfl, ?_⟩) ?_ ?_; rotate_left; (intro w'; go_simp; with_reducible rfl); rotate_left; (simp only [Act.put, List.setIfInBounds_toArray, List.set_cons_zero, List.set_cons_succ, i64_w, i32_w]; rfl)
        refine pure_ (i := 27) (N := some 58) (v := ?_) (a' := ?_) bN55_ rfl rfl (any_of HT_.out (by kernel_rfl)) (fun _ _ _ h => h) (Or.inl ⟨by rfl, ?_⟩) ?_ ?_; rotate_left; (intro w'; go_simp; with_reducible rfl); rotate_left; (simp only [Act.put, List.setIfInBounds_toArray, List.set_cons_zero, List.set_cons_succ, i64_w, i32_w]; rfl)
        refine done_ (done_of HT_.out (by kernel_rfl)) ?_
        try go_wp2
        go_meet
        case rel => exact ⟨_, ((t250 == 0)), (by first | rfl | (simp; done) | (simp [*]; done)), H', ⟨by have := HK1.out; first | omega | exact Nat.le_refl _⟩, ⟨vx_ HO_246000⟩, ⟨vx_ HO249⟩, ⟨bx_ BK243⟩, ⟨bx_ BK245⟩, ⟨bx_ BK255⟩, ⟨bx_ BK256⟩, ⟨hx_ HB⟩⟩
       ·rw [if_neg c27] at H
        have c27b0 : (((rd_T38 l0 x9_1).f0) == 6) = false := beq_eq_false_iff_ne.mpr c27
        have c27b1 : (((rd_T38 l0 x9_1).f0) != 6) = true := bne_iff_ne.mpr c27
        by_cases c30 : ((rd_T38 l0 x9_1).f0) = 7
        ·rw [if_pos c30] at H
         have c30b0 : (((rd_T38 l0 x9_1).f0) == 7) = true := beq_iff_eq.mpr c30
         have c30b1 : (((rd_T38 l0 x9_1).f0) != 7) = false := bne_eq_false_iff_eq.mpr c30
         clear c30
         have H' := am_ H
         clear H
         try go_wp2
         have n0_ : Aside0 (Kd.V k42 42 ((((((w18.setCell ⟨gb255, 0, none⟩ (.slice Ao19 t247.length co19)).setCell ⟨gb256, 0, none⟩ (.int .i64 t250)).setCell ⟨gb256, 1, none⟩ (.string t251)).setCell ⟨gb256, 2, none⟩ (.int .u64 t252)).setCell ⟨gb256, 3, none⟩ (.bool t253)).setCell ⟨gb256, 4, none⟩ (.bool t254)) w.heap.size (fun k_ => k_ ≠ gb243 ∧ k_ ≠ gb245 ∧ k_ ≠ gb255 ∧ k_ ≠ gb256) (.slice Ao13 x246000_1.length co13) x246000_1) := ⟨by (with_reducible repeat (first | apply Kd.V_alloc | apply Kd.V_drewN | apply Kd.V_drew)); exact Kd.V_mono (Kd.V_far (p := ⟨gb256, 4, none⟩) (Kd.V_far (p := ⟨gb256, 3, none⟩) (Kd.V_far (p := ⟨gb256, 2, none⟩) (Kd.V_far (p := ⟨gb256, 1, none⟩) (Kd.V_far (p := ⟨gb256, 0, none⟩) (Kd.V_far (p := ⟨gb255, 0, none⟩) (Kd.V_mono (Kd.V_mono HO_246000.out (fun k_ hk => (⟨hk, hk.2.2.1⟩ : _ ∧ k_ ≠ gb255))) (fun k_ hk => (⟨hk, hk.1.2.2.2⟩ : _ ∧ k_ ≠ gb256))) (fun _ hk => hk.1.2) (.slice Ao19 t247.length co19)) (fun _ hk => hk.2) (.int .i64 t250)) (fun _ hk => hk.2) (.string t251)) (fun _ hk => hk.2) (.int .u64 t252)) (fun _ hk => hk.2) (.bool t253)) (fun _ hk => hk.2) (.bool t254)) (fun _ hk => ⟨hk.1.1.1, ⟨hk.1.1.2.1, ⟨hk.1.1.2.2.1, hk.1.1.2.2.2⟩⟩⟩)⟩
         have n1_ : Aside0 (Kd.V k42 42 ((((((w18.setCell ⟨gb255, 0, none⟩ (.slice Ao19 t247.length co19)).setCell ⟨gb256, 0, none⟩ (.int .i64 t250)).setCell ⟨gb256, 1, none⟩ (.string t251)).setCell ⟨gb256, 2, none⟩ (.int .u64 t252)).setCell ⟨gb256, 3, none⟩ (.bool t253)).setCell ⟨gb256, 4, none⟩ (.bool t254)) w.heap.size (fun k_ => k_ ≠ gb243 ∧ k_ ≠ gb245 ∧ k_ ≠ gb255 ∧ k_ ≠ gb256) (.slice Ao19 t247.length co19) t247) := ⟨by (with_reducible repeat (first | apply Kd.V_alloc | apply Kd.V_drewN | apply Kd.V_drew)); exact Kd.V_mono (Kd.V_far (p := ⟨gb256, 4, none⟩) (Kd.V_far (p := ⟨gb256, 3, none⟩) (Kd.V_far (p := ⟨gb256, 2, none⟩) (Kd.V_far (p := ⟨gb256, 1, none⟩) (Kd.V_far (p := ⟨gb256, 0, none⟩) (Kd.V_far (p := ⟨gb255, 0, none⟩) (Kd.V_mono (Kd.V_mono HO249.out (fun k_ hk => (⟨hk, hk.2.2.1⟩ : _ ∧ k_ ≠ gb255))) (fun k_ hk => (⟨hk, hk.1.2.2.2⟩ : _ ∧ k_ ≠ gb256))) (fun _ hk => hk.1.2) (.slice Ao19 t247.length co19)) (fun _ hk => hk.2) (.int .i64 t250)) (fun _ hk => hk.2) (.string t251)) (fun _ hk => hk.2) (.int .u64 t252)) (fun _ hk => hk.2) (.bool t253)) (fun _ hk => hk.2) (.bool t254)) (fun _ hk => ⟨hk.1.1.1, ⟨hk.1.1.2.1, ⟨hk.1.1.2.2.1, hk.1.1.2.2.2⟩⟩⟩)⟩
         have n2_ : Aside0 (((((((w18.setCell ⟨gb255, 0, none⟩ (.slice Ao19 t247.length co19)).setCell ⟨gb256, 0, none⟩ (.int .i64 t250)).setCell ⟨gb256, 1, none⟩ (.string t251)).setCell ⟨gb256, 2, none⟩ (.int .u64 t252)).setCell ⟨gb256, 3, none⟩ (.bool t253)).setCell ⟨gb256, 4, none⟩ (.bool t254)).heap[gb243]? = some (.cells #[.int .u64 a1_0, .int .u64 a1_1] 34 (0, 0))) := ⟨by (with_reducible repeat (first | refine blk_drewN ?_ _ | refine blk_drew ?_ | refine blk_alloc ?_ _)); refine blk_far ?_ NB243_256.out _; (with_reducible repeat (first | refine blk_drewN ?_ _ | refine blk_drew ?_ | refine blk_alloc ?_ _)); refine blk_far ?_ NB243_256.out _; (with_reducible repeat (first | refine blk_drewN ?_ _ | refine blk_drew ?_ | refine blk_alloc ?_ _)); refine blk_far ?_ NB243_256.out _; (with_reducible repeat (first | refine blk_drewN ?_ _ | refine blk_drew ?_ | refine blk_alloc ?_ _)); refine blk_far ?_ NB243_256.out _; (with_reducible repeat (first | refine blk_drewN ?_ _ | refine blk_drew ?_ | refine blk_alloc ?_ _)); refine blk_far ?_ NB243_256.out _; (with_reducible repeat (first | refine blk_drewN ?_ _ | refine blk_drew ?_ | refine blk_alloc ?_ _)); refine blk_far ?_ NB243_255.out _; (with_reducible repeat (first | refine blk_drewN ?_ _ | refine blk_drew ?_ | refine blk_alloc ?_ _)); exact BK243.out⟩
         have n3_ : Aside0 (((((((w18.setCell ⟨gb255, 0, none⟩ (.slice Ao19 t247.length co19)).setCell ⟨gb256, 0, none⟩ (.int .i64 t250)).setCell ⟨gb256, 1, none⟩ (.string t251)).setCell ⟨gb256, 2, none⟩ (.int .u64 t252)).setCell ⟨gb256, 3, none⟩ (.bool t253)).setCell ⟨gb256, 4, none⟩ (.bool t254)).heap[gb245]? = some (.cells #[.slice Ao13 x246000_1.length co13] 26 (0, 0))) := ⟨by (with_reducible repeat (first | refine blk_drewN ?_ _ | refine blk_drew ?_ | refine blk_alloc ?_ _)); refine blk_far ?_ NB245_256.out _; (with_reducible repeat (first | refine blk_drewN ?_ _ | refine blk_drew ?_ | refine blk_alloc ?_ _)); refine blk_far ?_ NB245_256.out _; (with_reducible repeat (first | refine blk_drewN ?_ _ | refine blk_drew ?_ | refine blk_alloc ?_ _)); refine blk_far ?_ NB245_256.out _; (with_reducible repeat (first | refine blk_drewN ?_ _ | refine blk_drew ?_ | refine blk_alloc ?_ _)); refine blk_far ?_ NB245_256.out _; (with_reducible repeat (first | refine blk_drewN ?_ _ | refine blk_drew ?_ | refine blk_alloc ?_ _)); refine blk_far ?_ NB245_256.out _; (with_reducible repeat (first | refine blk_drewN ?_ _ | refine blk_drew ?_ | refine blk_alloc ?_ _)); refine blk_far ?_ NB245_255.out _; (with_reducible repeat (first | refine blk_drewN ?_ _ | refine blk_drew ?_ | refine blk_alloc ?_ _)); exact BK245.out⟩
         have n4_ : Aside0 (((((((w18.setCell ⟨gb255, 0, none⟩ (.slice Ao19 t247.length co19)).setCell ⟨gb256, 0, none⟩ (.int .i64 t250)).setCell ⟨gb256, 1, none⟩ (.string t251)).setCell ⟨gb256, 2, none⟩ (.int .u64 t252)).setCell ⟨gb256, 3, none⟩ (.bool t253)).setCell ⟨gb256, 4, none⟩ (.bool t254)).heap[gb255]? = some (.cells #[.slice Ao19 t247.length co19] 26 (0, 0))) := ⟨by (with_reducible repeat (first | refine blk_drewN ?_ _ | refine blk_drew ?_ | refine blk_alloc ?_ _)); refine blk_far ?_ NB255_256.out _; (with_reducible repeat (first | refine blk_drewN ?_ _ | refine blk_drew ?_ | refine blk_alloc ?_ _)); refine blk_far ?_ NB255_256.out _; (with_reducible repeat (first | refine blk_drewN ?_ _ | refine blk_drew ?_ | refine blk_alloc ?_ _)); refine blk_far ?_ NB255_256.out _; (with_reducible repeat (first | refine blk_drewN ?_ _ | refine blk_drew ?_ | refine blk_alloc ?_ _)); refine blk_far ?_ NB255_256.out _; (with_reducible repeat (first | refine blk_drewN ?_ _ | refine blk_drew ?_ | refine blk_alloc ?_ _)); refine blk_far ?_ NB255_256.out _; (with_reducible repeat (first | refine blk_drewN ?_ _ | refine blk_drew ?_ | refine blk_alloc ?_ _)); refine blk_put (cs := #[.slice none 0 0]) ?_ 0 _ rfl; (with_reducible repeat (first | refine blk_drewN ?_ _ | refine blk_drew ?_ | refine blk_alloc ?_ _)); exact BK255.out⟩
         have n5_ : Aside0 (((((((w18.setCell ⟨gb255, 0, none⟩ (.slice Ao19 t247.length co19)).setCell ⟨gb256, 0, none⟩ (.int .i64 t250)).setCell ⟨gb256, 1, none⟩ (.string t251)).setCell ⟨gb256, 2, none⟩ (.int .u64 t252)).setCell ⟨gb256, 3, none⟩ (.bool t253)).setCell ⟨gb256, 4, none⟩ (.bool t254)).heap[gb256]? = some (.cells #[.int .i64 t250, .string t251, .int .u64 t252, .bool t253, .bool t254] 30 (0, 0))) := ⟨by (with_reducible repeat (first | refine blk_drewN ?_ _ | refine blk_drew ?_ | refine blk_alloc ?_ _)); refine blk_put (cs := #[.int .i64 t250, .string t251, .int .u64 t252, .bool t253, .bool false]) ?_ 4 _ rfl; (with_reducible repeat (first | refine blk_drewN ?_ _ | refine blk_drew ?_ | refine blk_alloc ?_ _)); refine blk_put (cs := #[.int .i64 t250, .string t251, .int .u64 t252, .bool false, .bool false]) ?_ 3 _ rfl; (with_reducible repeat (first | refine blk_drewN ?_ _ | refine blk_drew ?_ | refine blk_alloc ?_ _)); refine blk_put (cs := #[.int .i64 t250, .string t251, .int .u64 0, .bool false, .bool false]) ?_ 2 _ rfl; (with_reducible repeat (first | refine blk_drewN ?_ _ | refine blk_drew ?_ | refine blk_alloc ?_ _)); refine blk_put (cs := #[.int .i64 t250, .string (⟨#[]⟩ : ByteArray), .int .u64 0, .bool false, .bool false]) ?_ 1 _ rfl; (with_reducible repeat (first | refine blk_drewN ?_ _ | refine blk_drew ?_ | refine blk_alloc ?_ _)); refine blk_put (cs := #[.int .i64 0, .string (⟨#[]⟩ : ByteArray), .int .u64 0, .bool false, .bool false]) ?_ 0 _ rfl; (with_reducible repeat (first | refine blk_drewN ?_ _ | refine blk_drew ?_ | refine blk_alloc ?_ _)); refine blk_far ?_ NB256_255.out _; (with_reducible repeat (first | refine blk_drewN ?_ _ | refine blk_drew ?_ | refine blk_alloc ?_ _)); exact BK256.out⟩
         have n6_ : Aside0 (Below w.heap.size w ((((((w18.setCell ⟨gb255, 0, none⟩ (.slice Ao19 t247.length co19)).setCell ⟨gb256, 0, none⟩ (.int .i64 t250)).setCell ⟨gb256, 1, none⟩ (.string t251)).setCell ⟨gb256, 2, none⟩ (.int .u64 t252)).setCell ⟨gb256, 3, none⟩ (.bool t253)).setCell ⟨gb256, 4, none⟩ (.bool t254))) := ⟨hx_ HB⟩
         (try clear HO_246000)
         (try clear HO249)
         (try clear BK243)
         (try clear BK245)
         (try clear BK255)
         (try clear BK256)
         (try clear HB)
         generalize ((((((w18.setCell ⟨gb255, 0, none⟩ (.slice Ao19 t247.length co19)).setCell ⟨gb256, 0, none⟩ (.int .i64 t250)).setCell ⟨gb256, 1, none⟩ (.string t251)).setCell ⟨gb256, 2, none⟩ (.int .u64 t252)).setCell ⟨gb256, 3, none⟩ (.bool t253)).setCell ⟨gb256, 4, none⟩ (.bool t254)) = w31 at n0_ n1_ n2_ n3_ n4_ n5_ n6_ ⊢
         have HO_246000 := n0_
         have HO249 := n1_
         have BK243 := n2_
         have BK245 := n3_
         have BK255 := n4_
         have BK256 := n5_
         have HB := n6_
         clear n0_ n1_ n2_ n3_ n4_ n5_ n6_
         have n0_ := am_ (Kd.V_drew HO_246000.out)
         have n1_ := am_ (Kd.V_drew HO249.out)
         have n2_ := am_ (blk_drew BK243.out)
         have n3_ := am_ (blk_drew BK245.out)
         have n4_ := am_ (blk_drew BK255.out)
         have n5_ := am_ (blk_drew BK256.out)
         have n6_ := am_ (below_drew1 HB.out)
         clear HO_246000
         clear HO249
         clear BK243
         clear BK245
         clear BK255
         clear BK256
         clear HB
         have HO_246000 := n0_
         have HO249 := n1_
         have BK243 := n2_
         have BK245 := n3_
         have BK255 := n4_
         have BK256 := n5_
         have HB := n6_
         clear n0_ n1_ n2_ n3_ n4_ n5_ n6_
         have p257 : 0 ≤ (x9_1 : Int) := of_decide_eq_true (by first | (with_reducible assumption) | assumption)
         have q257 : x9_1 < (l0.length : Int) := of_decide_eq_true (by first | (with_reducible assumption) | assumption)
         obtain ⟨ad257, A257_4, c257_4, A257_6, c257_6, e257, hx257_0, hx257_1, hx257_2, hx257_3, hx257_4, hx257_5, hx257_6, hl257_4, hi257_4, hl257_6, hi257_6⟩ := at_T38 HR0.out x9_1 p257 q257
         have hw257_6 := hx257_6
         have hw257_5 := hx257_5
         have hw257_4 := hx257_4
         have hw257_3 := hx257_3
         have hw257_2 := hx257_2
         have hw257_1 := hx257_1
         have hw257_0 := hx257_0
         obtain rfl : ad246 = ad257 := (by injection e257)
         replace hx257_0 := (HB.out.cell (World.block_lt_of_cell? w _ hx257_0)).trans hx257_0
         replace hx257_1 := (HB.out.cell (World.block_lt_of_cell? w _ hx257_1)).trans hx257_1
         replace hx257_2 := (HB.out.cell (World.block_lt_of_cell? w _ hx257_2)).trans hx257_2
         replace hx257_3 := (HB.out.cell (World.block_lt_of_cell? w _ hx257_3)).trans hx257_3
         replace hx257_4 := (HB.out.cell (World.block_lt_of_cell? w _ hx257_4)).trans hx257_4
         replace hx257_5 := (HB.out.cell (World.block_lt_of_cell? w _ hx257_5)).trans hx257_5
         replace hx257_6 := (HB.out.cell (World.block_lt_of_cell? w _ hx257_6)).trans hx257_6
         have HR257_4 := am_ hi257_4
         have HC257_4 := am_ hl257_4
         clear hi257_4 hl257_4
         have HR257_6 := am_ hi257_6
         have HC257_6 := am_ hl257_6
         clear hi257_6 hl257_6
         replace p257 := eq_true p257
         replace q257 := eq_true q257
         have p258 : 0 ≤ (x9_1 : Int) := of_decide_eq_true (by first | (with_reducible assumption) | assumption)
         have q258 : x9_1 < (l0.length : Int) := of_decide_eq_true (by first | (with_reducible assumption) | assumption)
         obtain ⟨ad258, A258_4, c258_4, A258_6, c258_6, e258, hx258_0, hx258_1, hx258_2, hx258_3, hx258_4, hx258_5, hx258_6, hl258_4, hi258_4, hl258_6, hi258_6⟩ := at_T38 HR0.out x9_1 p258 q258
         have hw258_6 := hx258_6
         have hw258_5 := hx258_5
         have hw258_4 := hx258_4
         have hw258_3 := hx258_3
         have hw258_2 := hx258_2
         have hw258_1 := hx258_1
         have hw258_0 := hx258_0
         obtain rfl : ad246 = ad258 := (by injection e258)
         replace hx258_0 := (HB.out.cell (World.block_lt_of_cell? w _ hx258_0)).trans hx258_0
         replace hx258_1 := (HB.out.cell (World.block_lt_of_cell? w _ hx258_1)).trans hx258_1
         replace hx258_2 := (HB.out.cell (World.block_lt_of_cell? w _ hx258_2)).trans hx258_2
         replace hx258_3 := (HB.out.cell (World.block_lt_of_cell? w _ hx258_3)).trans hx258_3
         replace hx258_4 := (HB.out.cell (World.block_lt_of_cell? w _ hx258_4)).trans hx258_4
         replace hx258_5 := (HB.out.cell (World.block_lt_of_cell? w _ hx258_5)).trans hx258_5
         replace hx258_6 := (HB.out.cell (World.block_lt_of_cell? w _ hx258_6)).trans hx258_6
         have HR258_4 := am_ hi258_4
         have HC258_4 := am_ hl258_4
         clear hi258_4 hl258_4
         have HR258_6 := am_ hi258_6
         have HC258_6 := am_ hl258_6
         clear hi258_6 hl258_6
         replace p258 := eq_true p258
         replace q258 := eq_true q258
         have ea_ := Option.some.inj (hx257_4.symm.trans hx258_4)
         injection ea_ with ea_ en_ ec_
         subst ea_
         subst ec_
         clear en_
         have ea_ := Option.some.inj (hx257_6.symm.trans hx258_6)
         injection ea_ with ea_ en_ ec_
         subst ea_
         subst ec_
         clear en_
         have p259 : 0 ≤ (x9_1 : Int) := of_decide_eq_true (by first | (with_reducible assumption) | assumption)
         have q259 : x9_1 < (l0.length : Int) := of_decide_eq_true (by first | (with_reducible assumption) | assumption)
         obtain ⟨ad259, A259_4, c259_4, A259_6, c259_6, e259, hx259_0, hx259_1, hx259_2, hx259_3, hx259_4, hx259_5, hx259_6, hl259_4, hi259_4, hl259_6, hi259_6⟩ := at_T38 HR0.out x9_1 p259 q259
         have hw259_6 := hx259_6
         have hw259_5 := hx259_5
         have hw259_4 := hx259_4
         have hw259_3 := hx259_3
         have hw259_2 := hx259_2
         have hw259_1 := hx259_1
         have hw259_0 := hx259_0
         obtain rfl : ad246 = ad259 := (by injection e259)
         replace hx259_0 := (HB.out.cell (World.block_lt_of_cell? w _ hx259_0)).trans hx259_0
         replace hx259_1 := (HB.out.cell (World.block_lt_of_cell? w _ hx259_1)).trans hx259_1
         replace hx259_2 := (HB.out.cell (World.block_lt_of_cell? w _ hx259_2)).trans hx259_2
         replace hx259_3 := (HB.out.cell (World.block_lt_of_cell? w _ hx259_3)).trans hx259_3
         replace hx259_4 := (HB.out.cell (World.block_lt_of_cell? w _ hx259_4)).trans hx259_4
         replace hx259_5 := (HB.out.cell (World.block_lt_of_cell? w _ hx259_5)).trans hx259_5
         replace hx259_6 := (HB.out.cell (World.block_lt_of_cell? w _ hx259_6)).trans hx259_6
         have HR259_4 := am_ hi259_4
         have HC259_4 := am_ hl259_4
         clear hi259_4 hl259_4
         have HR259_6 := am_ hi259_6
         have HC259_6 := am_ hl259_6
         clear hi259_6 hl259_6
         replace p259 := eq_true p259
         replace q259 := eq_true q259
         have ea_ := Option.some.inj (hx257_4.symm.trans hx259_4)
         injection ea_ with ea_ en_ ec_
         subst ea_
         subst ec_
         clear en_
         have ea_ := Option.some.inj (hx257_6.symm.trans hx259_6)
         injection ea_ with ea_ en_ ec_
         subst ea_
         subst ec_
         clear en_
         refine start_ (n := 28) (S := fun w' => w'.cell? ⟨gb243, 0, none⟩ = some (.int .u64 a1_0) ∧ w'.cell? ⟨gb243, 1, none⟩ = some (.int .u64 a1_1) ∧ w'.cell? ⟨gb256, 0, none⟩ = some (.int .i64 t250) ∧ w'.cell? ⟨gb256, 1, none⟩ = some (.string t251) ∧ w'.cell? ⟨gb256, 2, none⟩ = some (.int .u64 t252) ∧ w'.cell? ⟨gb256, 3, none⟩ = some (.bool t253) ∧ w'.cell? ⟨gb256, 4, none⟩ = some (.bool t254) ∧ w'.cell? (ad246.add ((x9_1).toNat * 7)) = some (.int .i64 ((rd_T38 l0 x9_1).f0)) ∧ w'.cell? ⟨(ad246.add ((x9_1).toNat * 7)).block, (ad246.add ((x9_1).toNat * 7)).off + 1, none⟩ = some (.int .u64 ((rd_T38 l0 x9_1).f1.f0)) ∧ w'.cell? ⟨(ad246.add ((x9_1).toNat * 7)).block, (ad246.add ((x9_1).toNat * 7)).off + 2, none⟩ = some (.int .u64 ((rd_T38 l0 x9_1).f1.f1)) ∧ w'.cell? ⟨(ad246.add ((x9_1).toNat * 7)).block, (ad246.add ((x9_1).toNat * 7)).off + 3, none⟩ = some (.string ((rd_T38 l0 x9_1).f2)) ∧ w'.cell? ⟨(ad246.add ((x9_1).toNat * 7)).block, (ad246.add ((x9_1).toNat * 7)).off + 4, none⟩ = some (.slice A257_4 ((rd_T38 l0 x9_1).f3).length c257_4) ∧ w'.cell? ⟨(ad246.add ((x9_1).toNat * 7)).block, (ad246.add ((x9_1).toNat * 7)).off + 5, none⟩ = some (.bool ((rd_T38 l0 x9_1).f4)) ∧ w'.cell? ⟨(ad246.add ((x9_1).toNat * 7)).block, (ad246.add ((x9_1).toNat * 7)).off + 6, none⟩ = some (.slice A257_6 ((rd_T38 l0 x9_1).f5).length c257_6) ∧ w'.cell? (ad246.add ((x9_1).toNat * 7)) = some (.int .i64 ((rd_T38 l0 x9_1).f0)) ∧ w'.cell? ⟨(ad246.add ((x9_1).toNat * 7)).block, (ad246.add ((x9_1).toNat * 7)).off + 1, none⟩ = some (.int .u64 ((rd_T38 l0 x9_1).f1.f0)) ∧ w'.cell? ⟨(ad246.add ((x9_1).toNat * 7)).block, (ad246.add ((x9_1).toNat * 7)).off + 2, none⟩ = some (.int .u64 ((rd_T38 l0 x9_1).f1.f1)) ∧ w'.cell? ⟨(ad246.add ((x9_1).toNat * 7)).block, (ad246.add ((x9_1).toNat * 7)).off + 3, none⟩ = some (.string ((rd_T38 l0 x9_1).f2)) ∧ w'.cell? ⟨(ad246.add ((x9_1).toNat * 7)).block, (ad246.add ((x9_1).toNat * 7)).off + 4, none⟩ = some (.slice A257_4 ((rd_T38 l0 x9_1).f3).length c257_4) ∧ w'.cell? ⟨(ad246.add ((x9_1).toNat * 7)).block, (ad246.add ((x9_1).toNat * 7)).off + 5, none⟩ = some (.bool ((rd_T38 l0 x9_1).f4)) ∧ w'.cell? ⟨(ad246.add ((x9_1).toNat * 7)).block, (ad246.add ((x9_1).toNat * 7)).off + 6, none⟩ = some (.slice A257_6 ((rd_T38 l0 x9_1).f5).length c257_6) ∧ w'.cell? (ad246.add ((x9_1).toNat * 7)) = some (.int .i64 ((rd_T38 l0 x9_1).f0)) ∧ w'.cell? ⟨(ad246.add ((x9_1).toNat * 7)).block, (ad246.add ((x9_1).toNat * 7)).off + 1, none⟩ = some (.int .u64 ((rd_T38 l0 x9_1).f1.f0)) ∧ w'.cell? ⟨(ad246.add ((x9_1).toNat * 7)).block, (ad246.add ((x9_1).toNat * 7)).off + 2, none⟩ = some (.int .u64 ((rd_T38 l0 x9_1).f1.f1)) ∧ w'.cell? ⟨(ad246.add ((x9_1).toNat * 7)).block, (ad246.add ((x9_1).toNat * 7)).off + 3, none⟩ = some (.string ((rd_T38 l0 x9_1).f2)) ∧ w'.cell? ⟨(ad246.add ((x9_1).toNat * 7)).block, (ad246.add ((x9_1).toNat * 7)).off + 4, none⟩ = some (.slice A257_4 ((rd_T38 l0 x9_1).f3).length c257_4) ∧ w'.cell? ⟨(ad246.add ((x9_1).toNat * 7)).block, (ad246.add ((x9_1).toNat * 7)).off + 5, none⟩ = some (.bool ((rd_T38 l0 x9_1).f4)) ∧ w'.cell? ⟨(ad246.add ((x9_1).toNat * 7)).block, (ad246.add ((x9_1).toNat * 7)).off + 6, none⟩ = some (.slice A257_6 ((rd_T38 l0 x9_1).f5).length c257_6)) (ds := []) bN27_ (by kernel_rfl) rfl rfl ⟨(blk_cell BK243.out 0).trans rfl, (blk_cell BK243.out 1).trans rfl, (blk_cell BK256.out 0).trans rfl, (blk_cell BK256.out 1).trans rfl, (blk_cell BK256.out 2).trans rfl, (blk_cell BK256.out 3).trans rfl, (blk_cell BK256.out 4).trans rfl, ((HB.out.cell (World.block_lt_of_cell? w _ hw257_0)).trans hw257_0), ((HB.out.cell (World.block_lt_of_cell? w _ hw257_1)).trans hw257_1), ((HB.out.cell (World.block_lt_of_cell? w _ hw257_2)).trans hw257_2), ((HB.out.cell (World.block_lt_of_cell? w _ hw257_3)).trans hw257_3), ((HB.out.cell (World.block_lt_of_cell? w _ hw257_4)).trans hw257_4), ((HB.out.cell (World.block_lt_of_cell? w _ hw257_5)).trans hw257_5), ((HB.out.cell (World.block_lt_of_cell? w _ hw257_6)).trans hw257_6), ((HB.out.cell (World.block_lt_of_cell? w _ hw258_0)).trans hw258_0), ((HB.out.cell (World.block_lt_of_cell? w _ hw258_1)).trans hw258_1), ((HB.out.cell (World.block_lt_of_cell? w _ hw258_2)).trans hw258_2), ((HB.out.cell (World.block_lt_of_cell? w _ hw258_3)).trans hw258_3), ((HB.out.cell (World.block_lt_of_cell? w _ hw258_4)).trans hw258_4), ((HB.out.cell (World.block_lt_of_cell? w _ hw258_5)).trans hw258_5), ((HB.out.cell (World.block_lt_of_cell? w _ hw258_6)).trans hw258_6), ((HB.out.cell (World.block_lt_of_cell? w _ hw259_0)).trans hw259_0), ((HB.out.cell (World.block_lt_of_cell? w _ hw259_1)).trans hw259_1), ((HB.out.cell (World.block_lt_of_cell? w _ hw259_2)).trans hw259_2), ((HB.out.cell (World.block_lt_of_cell? w _ hw259_3)).trans hw259_3), ((HB.out.cell (World.block_lt_of_cell? w _ hw259_4)).trans hw259_4), ((HB.out.cell (World.block_lt_of_cell? w _ hw259_5)).trans hw259_5), ((HB.out.cell (World.block_lt_of_cell? w _ hw259_6)).trans hw259_6)⟩ (fun hHeld => ?_); refine with_tabW ferrulelaw14_CoordOnce.tab9 ferrulelaw14_CoordOnce.bits9 (fun HT_ HW_ => ?_)
         generalize w31.drew = w32 at HO_246000 HO249 BK243 BK245 BK255 BK256 HB HR257_4 HR257_6 HR258_4 HR258_6 HR259_4 HR259_6 hx257_0 hx257_1 hx257_2 hx257_3 hx257_4 hx257_5 hx257_6 hx258_0 hx258_1 hx258_2 hx258_3 hx258_4 hx258_5 hx258_6 hx259_0 hx259_1 hx259_2 hx259_3 hx259_4 hx259_5 hx259_6 hHeld ⊢
         refine pure_ (i := 0) (N := some 31) (v := ?_) (a' := ?_) bN28_ rfl rfl (any_of HT_.out (by kernel_rfl)) (fun _ _ _ h => h) (Or.inl ⟨by rfl, ?_⟩) ?_ ?_; rotate_left; (intro w'; go_simp; with_reducible rfl); rotate_left; (simp only [Act.put, List.setIfInBounds_toArray, List.set_cons_zero, List.set_cons_succ, i64_w, i32_w]; rfl)
         refine pure_ (i := 1) (N := some 32) (v := ?_) (a' := ?_) bN29_ rfl rfl (any_of HT_.out (by kernel_rfl)) (fun _ _ _ h => h) (Or.inl ⟨by rfl, ?_⟩) ?_ ?_; rotate_left; (intro w'; go_simp; with_reducible rfl); rotate_left; (simp only [Act.put, List.setIfInBounds_toArray, List.set_cons_zero, List.set_cons_succ, i64_w, i32_w]; rfl)
         refine pure_ (i := 2) (N := some 33) (v := ?_) (a' := ?_) bN30_ rfl rfl (any_of HT_.out (by kernel_rfl)) (fun _ _ _ h => h) (Or.inl ⟨by rfl, ?_⟩) ?_ ?_; rotate_left; (intro w'; go_simp; with_reducible rfl); rotate_left; (simp only [Act.put, List.setIfInBounds_toArray, List.set_cons_zero, List.set_cons_succ, i64_w, i32_w]; rfl)
         refine pure_ (i := 3) (N := some 34) (v := ?_) (a' := ?_) bN31_ rfl rfl (any_of HT_.out (by kernel_rfl)) (fun _ _ _ h => h) (Or.inl ⟨by rfl, ?_⟩) ?_ ?_; rotate_left; (intro w'; go_simp; with_reducible rfl); rotate_left; (simp only [Act.put, List.setIfInBounds_toArray, List.set_cons_zero, List.set_cons_succ, i64_w, i32_w]; rfl)
         refine take_ (i := 4) (N := some 35) (v := ?_) (a' := ?_) bN32_ rfl rfl (take_ofW HT_.out HW_.out (by kernel_rfl)) (fun _ _ _ h => h) (Or.inl ⟨by rfl, ?_⟩) hHeld ?_ ?_; rotate_left; (rintro w' ⟨s0, s1, s2, s3, s4, s5, s6, s7, s8, s9, s10, s11, s12, s13, s14, s15, s16, s17, s18, s19, s20, s21, s22, s23, s24, s25, s26, s27⟩; go_simp; with_reducible rfl); rotate_left; (simp only [Act.put, List.setIfInBounds_toArray, List.set_cons_zero, List.set_cons_succ, i64_w, i32_w]; rfl)
         refine take_ (i := 5) (N := some 36) (v := ?_) (a' := ?_) bN33_ rfl rfl (take_ofW HT_.out HW_.out (by kernel_rfl)) (fun _ _ _ h => h) (Or.inl ⟨by rfl, ?_⟩) hHeld ?_ ?_; rotate_left; (rintro w' ⟨s0, s1, s2, s3, s4, s5, s6, s7, s8, s9, s10, s11, s12, s13, s14, s15, s16, s17, s18, s19, s20, s21, s22, s23, s24, s25, s26, s27⟩; go_simp; with_reducible rfl); rotate_left; (simp only [Act.put, List.setIfInBounds_toArray, List.set_cons_zero, List.set_cons_succ, i64_w, i32_w]; rfl)
         refine pure_ (i := 6) (N := some 37) (v := ?_) (a' := ?_) bN34_ rfl rfl (any_of HT_.out (by kernel_rfl)) (fun _ _ _ h => h) (Or.inl ⟨by rfl, ?_⟩) ?_ ?_; rotate_left; (intro w'; go_simp; with_reducible rfl); rotate_left; (simp only [Act.put, List.setIfInBounds_toArray, List.set_cons_zero, List.set_cons_succ, i64_w, i32_w]; rfl)
         refine pure_ (i := 7) (N := some 38) (v := ?_) (a' := ?_) bN35_ rfl rfl (any_of HT_.out (by kernel_rfl)) (fun _ _ _ h => h) (Or.inl ⟨by rfl, ?_⟩) ?_ ?_; rotate_left; (intro w'; go_simp; with_reducible rfl); rotate_left; (simp only [Act.put, List.setIfInBounds_toArray, List.set_cons_zero, List.set_cons_succ, i64_w, i32_w]; rfl)
         refine pure_ (i := 8) (N := some 39) (v := ?_) (a' := ?_) bN36_ rfl rfl (any_of HT_.out (by kernel_rfl)) (fun _ _ _ h => h) (Or.inl ⟨by rfl, ?_⟩) ?_ ?_; rotate_left; (intro w'; go_simp; with_reducible rfl); rotate_left; (simp only [Act.put, List.setIfInBounds_toArray, List.set_cons_zero, List.set_cons_succ, i64_w, i32_w]; rfl)
         refine pure_ (i := 9) (N := some 40) (v := ?_) (a' := ?_) bN37_ rfl rfl (any_of HT_.out (by kernel_rfl)) (fun _ _ _ h => h) (Or.inl ⟨by rfl, ?_⟩) ?_ ?_; rotate_left; (intro w'; go_simp; with_reducible rfl); rotate_left; (simp only [Act.put, List.setIfInBounds_toArray, List.set_cons_zero, List.set_cons_succ, i64_w, i32_w]; rfl)
         refine pure_ (i := 10) (N := some 41) (v := ?_) (a' := ?_) bN38_ rfl rfl (any_of HT_.out (by kernel_rfl)) (fun _ _ _ h => h) (Or.inl ⟨by rfl, ?_⟩) ?_ ?_; rotate_left; (intro w'; go_simp; with_reducible rfl); rotate_left; (simp only [Act.put, List.setIfInBounds_toArray, List.set_cons_zero, List.set_cons_succ, i64_w, i32_w]; rfl)
         refine pure_ (i := 11) (N := some 42) (v := ?_) (a' := ?_) bN39_ rfl rfl (any_of HT_.out (by kernel_rfl)) (fun _ _ _ h => h) (Or.inl ⟨by rfl, ?_⟩) ?_ ?_; rotate_left; (intro w'; go_simp; with_reducible rfl); rotate_left; (simp only [Act.put, List.setIfInBounds_toArray, List.set_cons_zero, List.set_cons_succ, i64_w, i32_w]; rfl)
         refine take_ (i := 12) (N := some 43) (v := ?_) (a' := ?_) bN40_ rfl rfl (take_ofW HT_.out HW_.out (by kernel_rfl)) (fun _ _ _ h => h) (Or.inl ⟨by rfl, ?_⟩) hHeld ?_ ?_; rotate_left; (rintro w' ⟨s0, s1, s2, s3, s4, s5, s6, s7, s8, s9, s10, s11, s12, s13, s14, s15, s16, s17, s18, s19, s20, s21, s22, s23, s24, s25, s26, s27⟩; go_simp; with_reducible rfl); rotate_left; (simp only [Act.put, List.setIfInBounds_toArray, List.set_cons_zero, List.set_cons_succ, i64_w, i32_w]; rfl)
         refine pure_ (i := 13) (N := some 44) (v := ?_) (a' := ?_) bN41_ rfl rfl (any_of HT_.out (by kernel_rfl)) (fun _ _ _ h => h) (Or.inl ⟨by rfl, ?_⟩) ?_ ?_; rotate_left; (intro w'; go_simp; with_reducible rfl); rotate_left; (simp only [Act.put, List.setIfInBounds_toArray, List.set_cons_zero, List.set_cons_succ, i64_w, i32_w]; rfl)
         refine pure_ (i := 14) (N := some 45) (v := ?_) (a' := ?_) bN42_ rfl rfl (any_of HT_.out (by kernel_rfl)) (fun _ _ _ h => h) (Or.inl ⟨by rfl, ?_⟩) ?_ ?_; rotate_left; (intro w'; go_simp; with_reducible rfl); rotate_left; (simp only [Act.put, List.setIfInBounds_toArray, List.set_cons_zero, List.set_cons_succ, i64_w, i32_w]; rfl)
         refine pure_ (i := 15) (N := some 46) (v := ?_) (a' := ?_) bN43_ rfl rfl (any_of HT_.out (by kernel_rfl)) (fun _ _ _ h => h) (Or.inl ⟨by rfl, ?_⟩) ?_ ?_; rotate_left; (intro w'; go_simp; with_reducible rfl); rotate_left; (simp only [Act.put, List.setIfInBounds_toArray, List.set_cons_zero, List.set_cons_succ, i64_w, i32_w]; rfl)
         refine pure_ (i := 16) (N := some 47) (v := ?_) (a' := ?_) bN44_ rfl rfl (any_of HT_.out (by kernel_rfl)) (fun _ _ _ h => h) (Or.inl ⟨by rfl, ?_⟩) ?_ ?_; rotate_left; (intro w'; go_simp; with_reducible rfl); rotate_left; (simp only [Act.put, List.setIfInBounds_toArray, List.set_cons_zero, List.set_cons_succ, i64_w, i32_w]; rfl)
         refine pure_ (i := 17) (N := some 48) (v := ?_) (a' := ?_) bN45_ rfl rfl (any_of HT_.out (by kernel_rfl)) (fun _ _ _ h => h) (Or.inl ⟨by rfl, ?_⟩) ?_ ?_; rotate_left; (intro w'; go_simp; with_reducible rfl); rotate_left; (simp only [Act.put, List.setIfInBounds_toArray, List.set_cons_zero, List.set_cons_succ, i64_w, i32_w]; rfl)
         refine pure_ (i := 18) (N := some 49) (v := ?_) (a' := ?_) bN46_ rfl rfl (any_of HT_.out (by kernel_rfl)) (fun _ _ _ h => h) (Or.inl ⟨by rfl, ?_⟩) ?_ ?_; rotate_left; (intro w'; go_simp; with_reducible rfl); rotate_left; (simp only [Act.put, List.setIfInBounds_toArray, List.set_cons_zero, List.set_cons_succ, i64_w, i32_w]; rfl)
         refine take_ (i := 19) (N := some 50) (v := ?_) (a' := ?_) bN47_ rfl rfl (take_ofW HT_.out HW_.out (by kernel_rfl)) (fun _ _ _ h => h) (Or.inl ⟨by rfl, ?_⟩) hHeld ?_ ?_; rotate_left; (rintro w' ⟨s0, s1, s2, s3, s4, s5, s6, s7, s8, s9, s10, s11, s12, s13, s14, s15, s16, s17, s18, s19, s20, s21, s22, s23, s24, s25, s26, s27⟩; go_simp; with_reducible rfl); rotate_left; (simp only [Act.put, List.setIfInBounds_toArray, List.set_cons_zero, List.set_cons_succ, i64_w, i32_w]; rfl)
         refine pure_ (i := 20) (N := some 51) (v := ?_) (a' := ?_) bN48_ rfl rfl (any_of HT_.out (by kernel_rfl)) (fun _ _ _ h => h) (Or.inl ⟨by rfl, ?_⟩) ?_ ?_; rotate_left; (intro w'; go_simp; with_reducible rfl); rotate_left; (simp only [Act.put, List.setIfInBounds_toArray, List.set_cons_zero, List.set_cons_succ, i64_w, i32_w]; rfl)
         refine pure_ (i := 21) (N := some 52) (v := ?_) (a' := ?_) bN49_ rfl rfl (any_of HT_.out (by kernel_rfl)) (fun _ _ _ h => h) (Or.inl ⟨by rfl, ?_⟩) ?_ ?_; rotate_left; (intro w'; go_simp; with_reducible rfl); rotate_left; (simp only [Act.put, List.setIfInBounds_toArray, List.set_cons_zero, List.set_cons_succ, i64_w, i32_w]; rfl)
         refine pure_ (i := 22) (N := some 53) (v := ?_) (a' := ?_) bN50_ rfl rfl (any_of HT_.out (by kernel_rfl)) (fun _ _ _ h => h) (Or.inl ⟨by rfl, ?_⟩) ?_ ?_; rotate_left; (intro w'; go_simp; with_reducible rfl); rotate_left; (simp only [Act.put, List.setIfInBounds_toArray, List.set_cons_zero, List.set_cons_succ, i64_w, i32_w]; rfl)
         refine pure_ (i := 23) (N := some 54) (v := ?_) (a' := ?_) bN51_ rfl rfl (any_of HT_.out (by kernel_rfl)) (fun _ _ _ h => h) (Or.inl ⟨by rfl, ?_⟩) ?_ ?_; rotate_left; (intro w'; go_simp; with_reducible rfl); rotate_left; (simp only [Act.put, List.setIfInBounds_toArray, List.set_cons_zero, List.set_cons_succ, i64_w, i32_w]; rfl)
         refine pure_ (i := 24) (N := some 55) (v := ?_) (a' := ?_) bN52_ rfl rfl (any_of HT_.out (by kernel_rfl)) (fun _ _ _ h => h) (Or.inl ⟨by rfl, ?_⟩) ?_ ?_; rotate_left; (intro w'; go_simp; with_reducible rfl); rotate_left; (simp only [Act.put, List.setIfInBounds_toArray, List.set_cons_zero, List.set_cons_succ, i64_w, i32_w]; rfl)
         refine take_ (i := 25) (N := some 56) (v := ?_) (a' := ?_) bN53_ rfl rfl (take_ofW HT_.out HW_.out (by kernel_rfl)) (fun _ _ _ h => h) (Or.inl ⟨by rfl, ?_⟩) hHeld ?_ ?_; rotate_left; (rintro w' ⟨s0, s1, s2, s3, s4, s5, s6, s7, s8, s9, s10, s11, s12, s13, s14, s15, s16, s17, s18, s19, s20, s21, s22, s23, s24, s25, s26, s27⟩; go_simp; with_reducible rfl); rotate_left; (simp only [Act.put, List.setIfInBounds_toArray, List.set_cons_zero, List.set_cons_succ, i64_w, i32_w]; rfl)
         refine pure_ (i := 26) (N := some 57) (v := ?_) (a' := ?_) bN54_ rfl rfl (any_of HT_.out (by kernel_rfl)) (fun _ _ _ h => h) (Or.inl ⟨by rfl, ?_⟩) ?_ ?_; rotate_left; (intro w'; go_simp; with_reducible rfl); rotate_left; (simp only [Act.put, List.setIfInBounds_toArray, List.set_cons_zero, List.set_cons_succ, i64_w, i32_w]; rfl)
         refine pure_ (i := 27) (N := some 58) (v := ?_) (a' := ?_) bN55_ rfl rfl (any_of HT_.out (by kernel_rfl)) (fun _ _ _ h => h) (Or.inl ⟨by rfl, ?_⟩) ?_ ?_; rotate_left; (intro w'; go_simp; with_reducible rfl); rotate_left; (simp only [Act.put, List.setIfInBounds_toArray, List.set_cons_zero, List.set_cons_succ, i64_w, i32_w]; rfl)
         refine done_ (done_of HT_.out (by kernel_rfl)) ?_
         try go_wp2
         go_meet
         case rel => exact ⟨_, ((t250 == 0)), (by first | rfl | (simp; done) | (simp [*]; done)), H', ⟨by have := HK1.out; first | omega | exact Nat.le_refl _⟩, ⟨vx_ HO_246000⟩, ⟨vx_ HO249⟩, ⟨bx_ BK243⟩, ⟨bx_ BK245⟩, ⟨bx_ BK255⟩, ⟨bx_ BK256⟩, ⟨hx_ HB⟩⟩
        ·rw [if_neg c30] at H
         have c30b0 : (((rd_T38 l0 x9_1).f0) == 7) = false := beq_eq_false_iff_ne.mpr c30
         have c30b1 : (((rd_T38 l0 x9_1).f0) != 7) = true := bne_iff_ne.mpr c30
         have H' := am_ H
         clear H
         try go_wp2
         have n0_ : Aside0 (Kd.V k42 42 ((((((w18.setCell ⟨gb255, 0, none⟩ (.slice Ao19 t247.length co19)).setCell ⟨gb256, 0, none⟩ (.int .i64 t250)).setCell ⟨gb256, 1, none⟩ (.string t251)).setCell ⟨gb256, 2, none⟩ (.int .u64 t252)).setCell ⟨gb256, 3, none⟩ (.bool t253)).setCell ⟨gb256, 4, none⟩ (.bool t254)) w.heap.size (fun k_ => k_ ≠ gb243 ∧ k_ ≠ gb245 ∧ k_ ≠ gb255 ∧ k_ ≠ gb256) (.slice Ao13 x246000_1.length co13) x246000_1) := ⟨by (with_reducible repeat (first | apply Kd.V_alloc | apply Kd.V_drewN | apply Kd.V_drew)); exact Kd.V_mono (Kd.V_far (p := ⟨gb256, 4, none⟩) (Kd.V_far (p := ⟨gb256, 3, none⟩) (Kd.V_far (p := ⟨gb256, 2, none⟩) (Kd.V_far (p := ⟨gb256, 1, none⟩) (Kd.V_far (p := ⟨gb256, 0, none⟩) (Kd.V_far (p := ⟨gb255, 0, none⟩) (Kd.V_mono (Kd.V_mono HO_246000.out (fun k_ hk => (⟨hk, hk.2.2.1⟩ : _ ∧ k_ ≠ gb255))) (fun k_ hk => (⟨hk, hk.1.2.2.2⟩ : _ ∧ k_ ≠ gb256))) (fun _ hk => hk.1.2) (.slice Ao19 t247.length co19)) (fun _ hk => hk.2) (.int .i64 t250)) (fun _ hk => hk.2) (.string t251)) (fun _ hk => hk.2) (.int .u64 t252)) (fun _ hk => hk.2) (.bool t253)) (fun _ hk => hk.2) (.bool t254)) (fun _ hk => ⟨hk.1.1.1, ⟨hk.1.1.2.1, ⟨hk.1.1.2.2.1, hk.1.1.2.2.2⟩⟩⟩)⟩
         have n1_ : Aside0 (Kd.V k42 42 ((((((w18.setCell ⟨gb255, 0, none⟩ (.slice Ao19 t247.length co19)).setCell ⟨gb256, 0, none⟩ (.int .i64 t250)).setCell ⟨gb256, 1, none⟩ (.string t251)).setCell ⟨gb256, 2, none⟩ (.int .u64 t252)).setCell ⟨gb256, 3, none⟩ (.bool t253)).setCell ⟨gb256, 4, none⟩ (.bool t254)) w.heap.size (fun k_ => k_ ≠ gb243 ∧ k_ ≠ gb245 ∧ k_ ≠ gb255 ∧ k_ ≠ gb256) (.slice Ao19 t247.length co19) t247) := ⟨by (with_reducible repeat (first | apply Kd.V_alloc | apply Kd.V_drewN | apply Kd.V_drew)); exact Kd.V_mono (Kd.V_far (p := ⟨gb256, 4, none⟩) (Kd.V_far (p := ⟨gb256, 3, none⟩) (Kd.V_far (p := ⟨gb256, 2, none⟩) (Kd.V_far (p := ⟨gb256, 1, none⟩) (Kd.V_far (p := ⟨gb256, 0, none⟩) (Kd.V_far (p := ⟨gb255, 0, none⟩) (Kd.V_mono (Kd.V_mono HO249.out (fun k_ hk => (⟨hk, hk.2.2.1⟩ : _ ∧ k_ ≠ gb255))) (fun k_ hk => (⟨hk, hk.1.2.2.2⟩ : _ ∧ k_ ≠ gb256))) (fun _ hk => hk.1.2) (.slice Ao19 t247.length co19)) (fun _ hk => hk.2) (.int .i64 t250)) (fun _ hk => hk.2) (.string t251)) (fun _ hk => hk.2) (.int .u64 t252)) (fun _ hk => hk.2) (.bool t253)) (fun _ hk => hk.2) (.bool t254)) (fun _ hk => ⟨hk.1.1.1, ⟨hk.1.1.2.1, ⟨hk.1.1.2.2.1, hk.1.1.2.2.2⟩⟩⟩)⟩
         have n2_ : Aside0 (((((((w18.setCell ⟨gb255, 0, none⟩ (.slice Ao19 t247.length co19)).setCell ⟨gb256, 0, none⟩ (.int .i64 t250)).setCell ⟨gb256, 1, none⟩ (.string t251)).setCell ⟨gb256, 2, none⟩ (.int .u64 t252)).setCell ⟨gb256, 3, none⟩ (.bool t253)).setCell ⟨gb256, 4, none⟩ (.bool t254)).heap[gb243]? = some (.cells #[.int .u64 a1_0, .int .u64 a1_1] 34 (0, 0))) := ⟨by (with_reducible repeat (first | refine blk_drewN ?_ _ | refine blk_drew ?_ | refine blk_alloc ?_ _)); refine blk_far ?_ NB243_256.out _; (with_reducible repeat (first | refine blk_drewN ?_ _ | refine blk_drew ?_ | refine blk_alloc ?_ _)); refine blk_far ?_ NB243_256.out _; (with_reducible repeat (first | refine blk_drewN ?_ _ | refine blk_drew ?_ | refine blk_alloc ?_ _)); refine blk_far ?_ NB243_256.out _; (with_reducible repeat (first | refine blk_drewN ?_ _ | refine blk_drew ?_ | refine blk_alloc ?_ _)); refine blk_far ?_ NB243_256.out _; (with_reducible repeat (first | refine blk_drewN ?_ _ | refine blk_drew ?_ | refine blk_alloc ?_ _)); refine blk_far ?_ NB243_256.out _; (with_reducible repeat (first | refine blk_drewN ?_ _ | refine blk_drew ?_ | refine blk_alloc ?_ _)); refine blk_far ?_ NB243_255.out _; (with_reducible repeat (first | refine blk_drewN ?_ _ | refine blk_drew ?_ | refine blk_alloc ?_ _)); exact BK243.out⟩
         have n3_ : Aside0 (((((((w18.setCell ⟨gb255, 0, none⟩ (.slice Ao19 t247.length co19)).setCell ⟨gb256, 0, none⟩ (.int .i64 t250)).setCell ⟨gb256, 1, none⟩ (.string t251)).setCell ⟨gb256, 2, none⟩ (.int .u64 t252)).setCell ⟨gb256, 3, none⟩ (.bool t253)).setCell ⟨gb256, 4, none⟩ (.bool t254)).heap[gb245]? = some (.cells #[.slice Ao13 x246000_1.length co13] 26 (0, 0))) := ⟨by (with_reducible repeat (first | refine blk_drewN ?_ _ | refine blk_drew ?_ | refine blk_alloc ?_ _)); refine blk_far ?_ NB245_256.out _; (with_reducible repeat (first | refine blk_drewN ?_ _ | refine blk_drew ?_ | refine blk_alloc ?_ _)); refine blk_far ?_ NB245_256.out _; (with_reducible repeat (first | refine blk_drewN ?_ _ | refine blk_drew ?_ | refine blk_alloc ?_ _)); refine blk_far ?_ NB245_256.out _; (with_reducible repeat (first | refine blk_drewN ?_ _ | refine blk_drew ?_ | refine blk_alloc ?_ _)); refine blk_far ?_ NB245_256.out _; (with_reducible repeat (first | refine blk_drewN ?_ _ | refine blk_drew ?_ | refine blk_alloc ?_ _)); refine blk_far ?_ NB245_256.out _; (with_reducible repeat (first | refine blk_drewN ?_ _ | refine blk_drew ?_ | refine blk_alloc ?_ _)); refine blk_far ?_ NB245_255.out _; (with_reducible repeat (first | refine blk_drewN ?_ _ | refine blk_drew ?_ | refine blk_alloc ?_ _)); exact BK245.out⟩
         have n4_ : Aside0 (((((((w18.setCell ⟨gb255, 0, none⟩ (.slice Ao19 t247.length co19)).setCell ⟨gb256, 0, none⟩ (.int .i64 t250)).setCell ⟨gb256, 1, none⟩ (.string t251)).setCell ⟨gb256, 2, none⟩ (.int .u64 t252)).setCell ⟨gb256, 3, none⟩ (.bool t253)).setCell ⟨gb256, 4, none⟩ (.bool t254)).heap[gb255]? = some (.cells #[.slice Ao19 t247.length co19] 26 (0, 0))) := ⟨by (with_reducible repeat (first | refine blk_drewN ?_ _ | refine blk_drew ?_ | refine blk_alloc ?_ _)); refine blk_far ?_ NB255_256.out _; (with_reducible repeat (first | refine blk_drewN ?_ _ | refine blk_drew ?_ | refine blk_alloc ?_ _)); refine blk_far ?_ NB255_256.out _; (with_reducible repeat (first | refine blk_drewN ?_ _ | refine blk_drew ?_ | refine blk_alloc ?_ _)); refine blk_far ?_ NB255_256.out _; (with_reducible repeat (first | refine blk_drewN ?_ _ | refine blk_drew ?_ | refine blk_alloc ?_ _)); refine blk_far ?_ NB255_256.out _; (with_reducible repeat (first | refine blk_drewN ?_ _ | refine blk_drew ?_ | refine blk_alloc ?_ _)); refine blk_far ?_ NB255_256.out _; (with_reducible repeat (first | refine blk_drewN ?_ _ | refine blk_drew ?_ | refine blk_alloc ?_ _)); refine blk_put (cs := #[.slice none 0 0]) ?_ 0 _ rfl; (with_reducible repeat (first | refine blk_drewN ?_ _ | refine blk_drew ?_ | refine blk_alloc ?_ _)); exact BK255.out⟩
         have n5_ : Aside0 (((((((w18.setCell ⟨gb255, 0, none⟩ (.slice Ao19 t247.length co19)).setCell ⟨gb256, 0, none⟩ (.int .i64 t250)).setCell ⟨gb256, 1, none⟩ (.string t251)).setCell ⟨gb256, 2, none⟩ (.int .u64 t252)).setCell ⟨gb256, 3, none⟩ (.bool t253)).setCell ⟨gb256, 4, none⟩ (.bool t254)).heap[gb256]? = some (.cells #[.int .i64 t250, .string t251, .int .u64 t252, .bool t253, .bool t254] 30 (0, 0))) := ⟨by (with_reducible repeat (first | refine blk_drewN ?_ _ | refine blk_drew ?_ | refine blk_alloc ?_ _)); refine blk_put (cs := #[.int .i64 t250, .string t251, .int .u64 t252, .bool t253, .bool false]) ?_ 4 _ rfl; (with_reducible repeat (first | refine blk_drewN ?_ _ | refine blk_drew ?_ | refine blk_alloc ?_ _)); refine blk_put (cs := #[.int .i64 t250, .string t251, .int .u64 t252, .bool false, .bool false]) ?_ 3 _ rfl; (with_reducible repeat (first | refine blk_drewN ?_ _ | refine blk_drew ?_ | refine blk_alloc ?_ _)); refine blk_put (cs := #[.int .i64 t250, .string t251, .int .u64 0, .bool false, .bool false]) ?_ 2 _ rfl; (with_reducible repeat (first | refine blk_drewN ?_ _ | refine blk_drew ?_ | refine blk_alloc ?_ _)); refine blk_put (cs := #[.int .i64 t250, .string (⟨#[]⟩ : ByteArray), .int .u64 0, .bool false, .bool false]) ?_ 1 _ rfl; (with_reducible repeat (first | refine blk_drewN ?_ _ | refine blk_drew ?_ | refine blk_alloc ?_ _)); refine blk_put (cs := #[.int .i64 0, .string (⟨#[]⟩ : ByteArray), .int .u64 0, .bool false, .bool false]) ?_ 0 _ rfl; (with_reducible repeat (first | refine blk_drewN ?_ _ | refine blk_drew ?_ | refine blk_alloc ?_ _)); refine blk_far ?_ NB256_255.out _; (with_reducible repeat (first | refine blk_drewN ?_ _ | refine blk_drew ?_ | refine blk_alloc ?_ _)); exact BK256.out⟩
         have n6_ : Aside0 (Below w.heap.size w ((((((w18.setCell ⟨gb255, 0, none⟩ (.slice Ao19 t247.length co19)).setCell ⟨gb256, 0, none⟩ (.int .i64 t250)).setCell ⟨gb256, 1, none⟩ (.string t251)).setCell ⟨gb256, 2, none⟩ (.int .u64 t252)).setCell ⟨gb256, 3, none⟩ (.bool t253)).setCell ⟨gb256, 4, none⟩ (.bool t254))) := ⟨hx_ HB⟩
         (try clear HO_246000)
         (try clear HO249)
         (try clear BK243)
         (try clear BK245)
         (try clear BK255)
         (try clear BK256)
         (try clear HB)
         generalize ((((((w18.setCell ⟨gb255, 0, none⟩ (.slice Ao19 t247.length co19)).setCell ⟨gb256, 0, none⟩ (.int .i64 t250)).setCell ⟨gb256, 1, none⟩ (.string t251)).setCell ⟨gb256, 2, none⟩ (.int .u64 t252)).setCell ⟨gb256, 3, none⟩ (.bool t253)).setCell ⟨gb256, 4, none⟩ (.bool t254)) = w33 at n0_ n1_ n2_ n3_ n4_ n5_ n6_ ⊢
         have HO_246000 := n0_
         have HO249 := n1_
         have BK243 := n2_
         have BK245 := n3_
         have BK255 := n4_
         have BK256 := n5_
         have HB := n6_
         clear n0_ n1_ n2_ n3_ n4_ n5_ n6_
         have n0_ := am_ (Kd.V_drew HO_246000.out)
         have n1_ := am_ (Kd.V_drew HO249.out)
         have n2_ := am_ (blk_drew BK243.out)
         have n3_ := am_ (blk_drew BK245.out)
         have n4_ := am_ (blk_drew BK255.out)
         have n5_ := am_ (blk_drew BK256.out)
         have n6_ := am_ (below_drew1 HB.out)
         clear HO_246000
         clear HO249
         clear BK243
         clear BK245
         clear BK255
         clear BK256
         clear HB
         have HO_246000 := n0_
         have HO249 := n1_
         have BK243 := n2_
         have BK245 := n3_
         have BK255 := n4_
         have BK256 := n5_
         have HB := n6_
         clear n0_ n1_ n2_ n3_ n4_ n5_ n6_
         have p257 : 0 ≤ (x9_1 : Int) := of_decide_eq_true (by first | (with_reducible assumption) | assumption)
         have q257 : x9_1 < (l0.length : Int) := of_decide_eq_true (by first | (with_reducible assumption) | assumption)
         obtain ⟨ad257, A257_4, c257_4, A257_6, c257_6, e257, hx257_0, hx257_1, hx257_2, hx257_3, hx257_4, hx257_5, hx257_6, hl257_4, hi257_4, hl257_6, hi257_6⟩ := at_T38 HR0.out x9_1 p257 q257
         have hw257_6 := hx257_6
         have hw257_5 := hx257_5
         have hw257_4 := hx257_4
         have hw257_3 := hx257_3
         have hw257_2 := hx257_2
         have hw257_1 := hx257_1
         have hw257_0 := hx257_0
         obtain rfl : ad246 = ad257 := (by injection e257)
         replace hx257_0 := (HB.out.cell (World.block_lt_of_cell? w _ hx257_0)).trans hx257_0
         replace hx257_1 := (HB.out.cell (World.block_lt_of_cell? w _ hx257_1)).trans hx257_1
         replace hx257_2 := (HB.out.cell (World.block_lt_of_cell? w _ hx257_2)).trans hx257_2
         replace hx257_3 := (HB.out.cell (World.block_lt_of_cell? w _ hx257_3)).trans hx257_3
         replace hx257_4 := (HB.out.cell (World.block_lt_of_cell? w _ hx257_4)).trans hx257_4
         replace hx257_5 := (HB.out.cell (World.block_lt_of_cell? w _ hx257_5)).trans hx257_5
         replace hx257_6 := (HB.out.cell (World.block_lt_of_cell? w _ hx257_6)).trans hx257_6
         have HR257_4 := am_ hi257_4
         have HC257_4 := am_ hl257_4
         clear hi257_4 hl257_4
         have HR257_6 := am_ hi257_6
         have HC257_6 := am_ hl257_6
         clear hi257_6 hl257_6
         replace p257 := eq_true p257
         replace q257 := eq_true q257
         have p258 : 0 ≤ (x9_1 : Int) := of_decide_eq_true (by first | (with_reducible assumption) | assumption)
         have q258 : x9_1 < (l0.length : Int) := of_decide_eq_true (by first | (with_reducible assumption) | assumption)
         obtain ⟨ad258, A258_4, c258_4, A258_6, c258_6, e258, hx258_0, hx258_1, hx258_2, hx258_3, hx258_4, hx258_5, hx258_6, hl258_4, hi258_4, hl258_6, hi258_6⟩ := at_T38 HR0.out x9_1 p258 q258
         have hw258_6 := hx258_6
         have hw258_5 := hx258_5
         have hw258_4 := hx258_4
         have hw258_3 := hx258_3
         have hw258_2 := hx258_2
         have hw258_1 := hx258_1
         have hw258_0 := hx258_0
         obtain rfl : ad246 = ad258 := (by injection e258)
         replace hx258_0 := (HB.out.cell (World.block_lt_of_cell? w _ hx258_0)).trans hx258_0
         replace hx258_1 := (HB.out.cell (World.block_lt_of_cell? w _ hx258_1)).trans hx258_1
         replace hx258_2 := (HB.out.cell (World.block_lt_of_cell? w _ hx258_2)).trans hx258_2
         replace hx258_3 := (HB.out.cell (World.block_lt_of_cell? w _ hx258_3)).trans hx258_3
         replace hx258_4 := (HB.out.cell (World.block_lt_of_cell? w _ hx258_4)).trans hx258_4
         replace hx258_5 := (HB.out.cell (World.block_lt_of_cell? w _ hx258_5)).trans hx258_5
         replace hx258_6 := (HB.out.cell (World.block_lt_of_cell? w _ hx258_6)).trans hx258_6
         have HR258_4 := am_ hi258_4
         have HC258_4 := am_ hl258_4
         clear hi258_4 hl258_4
         have HR258_6 := am_ hi258_6
         have HC258_6 := am_ hl258_6
         clear hi258_6 hl258_6
         replace p258 := eq_true p258
         replace q258 := eq_true q258
         have ea_ := Option.some.inj (hx257_4.symm.trans hx258_4)
         injection ea_ with ea_ en_ ec_
         subst ea_
         subst ec_
         clear en_
         have ea_ := Option.some.inj (hx257_6.symm.trans hx258_6)
         injection ea_ with ea_ en_ ec_
         subst ea_
         subst ec_
         clear en_
         have p259 : 0 ≤ (x9_1 : Int) := of_decide_eq_true (by first | (with_reducible assumption) | assumption)
         have q259 : x9_1 < (l0.length : Int) := of_decide_eq_true (by first | (with_reducible assumption) | assumption)
         obtain ⟨ad259, A259_4, c259_4, A259_6, c259_6, e259, hx259_0, hx259_1, hx259_2, hx259_3, hx259_4, hx259_5, hx259_6, hl259_4, hi259_4, hl259_6, hi259_6⟩ := at_T38 HR0.out x9_1 p259 q259
         have hw259_6 := hx259_6
         have hw259_5 := hx259_5
         have hw259_4 := hx259_4
         have hw259_3 := hx259_3
         have hw259_2 := hx259_2
         have hw259_1 := hx259_1
         have hw259_0 := hx259_0
         obtain rfl : ad246 = ad259 := (by injection e259)
         replace hx259_0 := (HB.out.cell (World.block_lt_of_cell? w _ hx259_0)).trans hx259_0
         replace hx259_1 := (HB.out.cell (World.block_lt_of_cell? w _ hx259_1)).trans hx259_1
         replace hx259_2 := (HB.out.cell (World.block_lt_of_cell? w _ hx259_2)).trans hx259_2
         replace hx259_3 := (HB.out.cell (World.block_lt_of_cell? w _ hx259_3)).trans hx259_3
         replace hx259_4 := (HB.out.cell (World.block_lt_of_cell? w _ hx259_4)).trans hx259_4
         replace hx259_5 := (HB.out.cell (World.block_lt_of_cell? w _ hx259_5)).trans hx259_5
         replace hx259_6 := (HB.out.cell (World.block_lt_of_cell? w _ hx259_6)).trans hx259_6
         have HR259_4 := am_ hi259_4
         have HC259_4 := am_ hl259_4
         clear hi259_4 hl259_4
         have HR259_6 := am_ hi259_6
         have HC259_6 := am_ hl259_6
         clear hi259_6 hl259_6
         replace p259 := eq_true p259
         replace q259 := eq_true q259
         have ea_ := Option.some.inj (hx257_4.symm.trans hx259_4)
         injection ea_ with ea_ en_ ec_
         subst ea_
         subst ec_
         clear en_
         have ea_ := Option.some.inj (hx257_6.symm.trans hx259_6)
         injection ea_ with ea_ en_ ec_
         subst ea_
         subst ec_
         clear en_
         refine start_ (n := 28) (S := fun w' => w'.cell? ⟨gb243, 0, none⟩ = some (.int .u64 a1_0) ∧ w'.cell? ⟨gb243, 1, none⟩ = some (.int .u64 a1_1) ∧ w'.cell? (ad246.add ((x9_1).toNat * 7)) = some (.int .i64 ((rd_T38 l0 x9_1).f0)) ∧ w'.cell? ⟨(ad246.add ((x9_1).toNat * 7)).block, (ad246.add ((x9_1).toNat * 7)).off + 1, none⟩ = some (.int .u64 ((rd_T38 l0 x9_1).f1.f0)) ∧ w'.cell? ⟨(ad246.add ((x9_1).toNat * 7)).block, (ad246.add ((x9_1).toNat * 7)).off + 2, none⟩ = some (.int .u64 ((rd_T38 l0 x9_1).f1.f1)) ∧ w'.cell? ⟨(ad246.add ((x9_1).toNat * 7)).block, (ad246.add ((x9_1).toNat * 7)).off + 3, none⟩ = some (.string ((rd_T38 l0 x9_1).f2)) ∧ w'.cell? ⟨(ad246.add ((x9_1).toNat * 7)).block, (ad246.add ((x9_1).toNat * 7)).off + 4, none⟩ = some (.slice A257_4 ((rd_T38 l0 x9_1).f3).length c257_4) ∧ w'.cell? ⟨(ad246.add ((x9_1).toNat * 7)).block, (ad246.add ((x9_1).toNat * 7)).off + 5, none⟩ = some (.bool ((rd_T38 l0 x9_1).f4)) ∧ w'.cell? ⟨(ad246.add ((x9_1).toNat * 7)).block, (ad246.add ((x9_1).toNat * 7)).off + 6, none⟩ = some (.slice A257_6 ((rd_T38 l0 x9_1).f5).length c257_6) ∧ w'.cell? (ad246.add ((x9_1).toNat * 7)) = some (.int .i64 ((rd_T38 l0 x9_1).f0)) ∧ w'.cell? ⟨(ad246.add ((x9_1).toNat * 7)).block, (ad246.add ((x9_1).toNat * 7)).off + 1, none⟩ = some (.int .u64 ((rd_T38 l0 x9_1).f1.f0)) ∧ w'.cell? ⟨(ad246.add ((x9_1).toNat * 7)).block, (ad246.add ((x9_1).toNat * 7)).off + 2, none⟩ = some (.int .u64 ((rd_T38 l0 x9_1).f1.f1)) ∧ w'.cell? ⟨(ad246.add ((x9_1).toNat * 7)).block, (ad246.add ((x9_1).toNat * 7)).off + 3, none⟩ = some (.string ((rd_T38 l0 x9_1).f2)) ∧ w'.cell? ⟨(ad246.add ((x9_1).toNat * 7)).block, (ad246.add ((x9_1).toNat * 7)).off + 4, none⟩ = some (.slice A257_4 ((rd_T38 l0 x9_1).f3).length c257_4) ∧ w'.cell? ⟨(ad246.add ((x9_1).toNat * 7)).block, (ad246.add ((x9_1).toNat * 7)).off + 5, none⟩ = some (.bool ((rd_T38 l0 x9_1).f4)) ∧ w'.cell? ⟨(ad246.add ((x9_1).toNat * 7)).block, (ad246.add ((x9_1).toNat * 7)).off + 6, none⟩ = some (.slice A257_6 ((rd_T38 l0 x9_1).f5).length c257_6) ∧ w'.cell? (ad246.add ((x9_1).toNat * 7)) = some (.int .i64 ((rd_T38 l0 x9_1).f0)) ∧ w'.cell? ⟨(ad246.add ((x9_1).toNat * 7)).block, (ad246.add ((x9_1).toNat * 7)).off + 1, none⟩ = some (.int .u64 ((rd_T38 l0 x9_1).f1.f0)) ∧ w'.cell? ⟨(ad246.add ((x9_1).toNat * 7)).block, (ad246.add ((x9_1).toNat * 7)).off + 2, none⟩ = some (.int .u64 ((rd_T38 l0 x9_1).f1.f1)) ∧ w'.cell? ⟨(ad246.add ((x9_1).toNat * 7)).block, (ad246.add ((x9_1).toNat * 7)).off + 3, none⟩ = some (.string ((rd_T38 l0 x9_1).f2)) ∧ w'.cell? ⟨(ad246.add ((x9_1).toNat * 7)).block, (ad246.add ((x9_1).toNat * 7)).off + 4, none⟩ = some (.slice A257_4 ((rd_T38 l0 x9_1).f3).length c257_4) ∧ w'.cell? ⟨(ad246.add ((x9_1).toNat * 7)).block, (ad246.add ((x9_1).toNat * 7)).off + 5, none⟩ = some (.bool ((rd_T38 l0 x9_1).f4)) ∧ w'.cell? ⟨(ad246.add ((x9_1).toNat * 7)).block, (ad246.add ((x9_1).toNat * 7)).off + 6, none⟩ = some (.slice A257_6 ((rd_T38 l0 x9_1).f5).length c257_6)) (ds := []) bN27_ (by kernel_rfl) rfl rfl ⟨(blk_cell BK243.out 0).trans rfl, (blk_cell BK243.out 1).trans rfl, ((HB.out.cell (World.block_lt_of_cell? w _ hw257_0)).trans hw257_0), ((HB.out.cell (World.block_lt_of_cell? w _ hw257_1)).trans hw257_1), ((HB.out.cell (World.block_lt_of_cell? w _ hw257_2)).trans hw257_2), ((HB.out.cell (World.block_lt_of_cell? w _ hw257_3)).trans hw257_3), ((HB.out.cell (World.block_lt_of_cell? w _ hw257_4)).trans hw257_4), ((HB.out.cell (World.block_lt_of_cell? w _ hw257_5)).trans hw257_5), ((HB.out.cell (World.block_lt_of_cell? w _ hw257_6)).trans hw257_6), ((HB.out.cell (World.block_lt_of_cell? w _ hw258_0)).trans hw258_0), ((HB.out.cell (World.block_lt_of_cell? w _ hw258_1)).trans hw258_1), ((HB.out.cell (World.block_lt_of_cell? w _ hw258_2)).trans hw258_2), ((HB.out.cell (World.block_lt_of_cell? w _ hw258_3)).trans hw258_3), ((HB.out.cell (World.block_lt_of_cell? w _ hw258_4)).trans hw258_4), ((HB.out.cell (World.block_lt_of_cell? w _ hw258_5)).trans hw258_5), ((HB.out.cell (World.block_lt_of_cell? w _ hw258_6)).trans hw258_6), ((HB.out.cell (World.block_lt_of_cell? w _ hw259_0)).trans hw259_0), ((HB.out.cell (World.block_lt_of_cell? w _ hw259_1)).trans hw259_1), ((HB.out.cell (World.block_lt_of_cell? w _ hw259_2)).trans hw259_2), ((HB.out.cell (World.block_lt_of_cell? w _ hw259_3)).trans hw259_3), ((HB.out.cell (World.block_lt_of_cell? w _ hw259_4)).trans hw259_4), ((HB.out.cell (World.block_lt_of_cell? w _ hw259_5)).trans hw259_5), ((HB.out.cell (World.block_lt_of_cell? w _ hw259_6)).trans hw259_6)⟩ (fun hHeld => ?_); refine with_tabW ferrulelaw14_CoordOnce.tab9 ferrulelaw14_CoordOnce.bits9 (fun HT_ HW_ => ?_)
         generalize w33.drew = w34 at HO_246000 HO249 BK243 BK245 BK255 BK256 HB HR257_4 HR257_6 HR258_4 HR258_6 HR259_4 HR259_6 hx257_0 hx257_1 hx257_2 hx257_3 hx257_4 hx257_5 hx257_6 hx258_0 hx258_1 hx258_2 hx258_3 hx258_4 hx258_5 hx258_6 hx259_0 hx259_1 hx259_2 hx259_3 hx259_4 hx259_5 hx259_6 hHeld ⊢
         refine pure_ (i := 0) (N := some 31) (v := ?_) (a' := ?_) bN28_ rfl rfl (any_of HT_.out (by kernel_rfl)) (fun _ _ _ h => h) (Or.inl ⟨by rfl, ?_⟩) ?_ ?_; rotate_left; (intro w'; go_simp; with_reducible rfl); rotate_left; (simp only [Act.put, List.setIfInBounds_toArray, List.set_cons_zero, List.set_cons_succ, i64_w, i32_w]; rfl)
         refine pure_ (i := 1) (N := some 32) (v := ?_) (a' := ?_) bN29_ rfl rfl (any_of HT_.out (by kernel_rfl)) (fun _ _ _ h => h) (Or.inl ⟨by rfl, ?_⟩) ?_ ?_; rotate_left; (intro w'; go_simp; with_reducible rfl); rotate_left; (simp only [Act.put, List.setIfInBounds_toArray, List.set_cons_zero, List.set_cons_succ, i64_w, i32_w]; rfl)
         refine pure_ (i := 2) (N := some 33) (v := ?_) (a' := ?_) bN30_ rfl rfl (any_of HT_.out (by kernel_rfl)) (fun _ _ _ h => h) (Or.inl ⟨by rfl, ?_⟩) ?_ ?_; rotate_left; (intro w'; go_simp; with_reducible rfl); rotate_left; (simp only [Act.put, List.setIfInBounds_toArray, List.set_cons_zero, List.set_cons_succ, i64_w, i32_w]; rfl)
         refine pure_ (i := 3) (N := some 34) (v := ?_) (a' := ?_) bN31_ rfl rfl (any_of HT_.out (by kernel_rfl)) (fun _ _ _ h => h) (Or.inl ⟨by rfl, ?_⟩) ?_ ?_; rotate_left; (intro w'; go_simp; with_reducible rfl); rotate_left; (simp only [Act.put, List.setIfInBounds_toArray, List.set_cons_zero, List.set_cons_succ, i64_w, i32_w]; rfl)
         refine take_ (i := 4) (N := some 35) (v := ?_) (a' := ?_) bN32_ rfl rfl (take_ofW HT_.out HW_.out (by kernel_rfl)) (fun _ _ _ h => h) (Or.inl ⟨by rfl, ?_⟩) hHeld ?_ ?_; rotate_left; (rintro w' ⟨s0, s1, s2, s3, s4, s5, s6, s7, s8, s9, s10, s11, s12, s13, s14, s15, s16, s17, s18, s19, s20, s21, s22⟩; go_simp; with_reducible rfl); rotate_left; (simp only [Act.put, List.setIfInBounds_toArray, List.set_cons_zero, List.set_cons_succ, i64_w, i32_w]; rfl)
         refine take_ (i := 5) (N := some 36) (v := ?_) (a' := ?_) bN33_ rfl rfl (take_ofW HT_.out HW_.out (by kernel_rfl)) (fun _ _ _ h => h) (Or.inl ⟨by rfl, ?_⟩) hHeld ?_ ?_; rotate_left; (rintro w' ⟨s0, s1, s2, s3, s4, s5, s6, s7, s8, s9, s10, s11, s12, s13, s14, s15, s16, s17, s18, s19, s20, s21, s22⟩; go_simp; with_reducible rfl); rotate_left; (simp only [Act.put, List.setIfInBounds_toArray, List.set_cons_zero, List.set_cons_succ, i64_w, i32_w]; rfl)
         refine pure_ (i := 6) (N := some 37) (v := ?_) (a' := ?_) bN34_ rfl rfl (any_of HT_.out (by kernel_rfl)) (fun _ _ _ h => h) (Or.inl ⟨by rfl, ?_⟩) ?_ ?_; rotate_left; (intro w'; go_simp; with_reducible rfl); rotate_left; (simp only [Act.put, List.setIfInBounds_toArray, List.set_cons_zero, List.set_cons_succ, i64_w, i32_w]; rfl)
         refine pure_ (i := 7) (N := some 38) (v := ?_) (a' := ?_) bN35_ rfl rfl (any_of HT_.out (by kernel_rfl)) (fun _ _ _ h => h) (Or.inl ⟨by rfl, ?_⟩) ?_ ?_; rotate_left; (intro w'; go_simp; with_reducible rfl); rotate_left; (simp only [Act.put, List.setIfInBounds_toArray, List.set_cons_zero, List.set_cons_succ, i64_w, i32_w]; rfl)
         refine pure_ (i := 8) (N := some 39) (v := ?_) (a' := ?_) bN36_ rfl rfl (any_of HT_.out (by kernel_rfl)) (fun _ _ _ h => h) (Or.inl ⟨by rfl, ?_⟩) ?_ ?_; rotate_left; (intro w'; go_simp; with_reducible rfl); rotate_left; (simp only [Act.put, List.setIfInBounds_toArray, List.set_cons_zero, List.set_cons_succ, i64_w, i32_w]; rfl)
         refine pure_ (i := 9) (N := some 40) (v := ?_) (a' := ?_) bN37_ rfl rfl (any_of HT_.out (by kernel_rfl)) (fun _ _ _ h => h) (Or.inl ⟨by rfl, ?_⟩) ?_ ?_; rotate_left; (intro w'; go_simp; with_reducible rfl); rotate_left; (simp only [Act.put, List.setIfInBounds_toArray, List.set_cons_zero, List.set_cons_succ, i64_w, i32_w]; rfl)
         refine pure_ (i := 10) (N := some 41) (v := ?_) (a' := ?_) bN38_ rfl rfl (any_of HT_.out (by kernel_rfl)) (fun _ _ _ h => h) (Or.inl ⟨by rfl, ?_⟩) ?_ ?_; rotate_left; (intro w'; go_simp; with_reducible rfl); rotate_left; (simp only [Act.put, List.setIfInBounds_toArray, List.set_cons_zero, List.set_cons_succ, i64_w, i32_w]; rfl)
         refine pure_ (i := 11) (N := some 42) (v := ?_) (a' := ?_) bN39_ rfl rfl (any_of HT_.out (by kernel_rfl)) (fun _ _ _ h => h) (Or.inl ⟨by rfl, ?_⟩) ?_ ?_; rotate_left; (intro w'; go_simp; with_reducible rfl); rotate_left; (simp only [Act.put, List.setIfInBounds_toArray, List.set_cons_zero, List.set_cons_succ, i64_w, i32_w]; rfl)
         refine take_ (i := 12) (N := some 43) (v := ?_) (a' := ?_) bN40_ rfl rfl (take_ofW HT_.out HW_.out (by kernel_rfl)) (fun _ _ _ h => h) (Or.inl ⟨by rfl, ?_⟩) hHeld ?_ ?_; rotate_left; (rintro w' ⟨s0, s1, s2, s3, s4, s5, s6, s7, s8, s9, s10, s11, s12, s13, s14, s15, s16, s17, s18, s19, s20, s21, s22⟩; go_simp; with_reducible rfl); rotate_left; (simp only [Act.put, List.setIfInBounds_toArray, List.set_cons_zero, List.set_cons_succ, i64_w, i32_w]; rfl)
         refine pure_ (i := 13) (N := some 44) (v := ?_) (a' := ?_) bN41_ rfl rfl (any_of HT_.out (by kernel_rfl)) (fun _ _ _ h => h) (Or.inl ⟨by rfl, ?_⟩) ?_ ?_; rotate_left; (intro w'; go_simp; with_reducible rfl); rotate_left; (simp only [Act.put, List.setIfInBounds_toArray, List.set_cons_zero, List.set_cons_succ, i64_w, i32_w]; rfl)
         refine pure_ (i := 14) (N := some 45) (v := ?_) (a' := ?_) bN42_ rfl rfl (any_of HT_.out (by kernel_rfl)) (fun _ _ _ h => h) (Or.inl ⟨by rfl, ?_⟩) ?_ ?_; rotate_left; (intro w'; go_simp; with_reducible rfl); rotate_left; (simp only [Act.put, List.setIfInBounds_toArray, List.set_cons_zero, List.set_cons_succ, i64_w, i32_w]; rfl)
         refine pure_ (i := 15) (N := some 46) (v := ?_) (a' := ?_) bN43_ rfl rfl (any_of HT_.out (by kernel_rfl)) (fun _ _ _ h => h) (Or.inl ⟨by rfl, ?_⟩) ?_ ?_; rotate_left; (intro w'; go_simp; with_reducible rfl); rotate_left; (simp only [Act.put, List.setIfInBounds_toArray, List.set_cons_zero, List.set_cons_succ, i64_w, i32_w]; rfl)
         refine pure_ (i := 16) (N := some 47) (v := ?_) (a' := ?_) bN44_ rfl rfl (any_of HT_.out (by kernel_rfl)) (fun _ _ _ h => h) (Or.inl ⟨by rfl, ?_⟩) ?_ ?_; rotate_left; (intro w'; go_simp; with_reducible rfl); rotate_left; (simp only [Act.put, List.setIfInBounds_toArray, List.set_cons_zero, List.set_cons_succ, i64_w, i32_w]; rfl)
         refine pure_ (i := 17) (N := some 48) (v := ?_) (a' := ?_) bN45_ rfl rfl (any_of HT_.out (by kernel_rfl)) (fun _ _ _ h => h) (Or.inl ⟨by rfl, ?_⟩) ?_ ?_; rotate_left; (intro w'; go_simp; with_reducible rfl); rotate_left; (simp only [Act.put, List.setIfInBounds_toArray, List.set_cons_zero, List.set_cons_succ, i64_w, i32_w]; rfl)
         refine pure_ (i := 18) (N := some 49) (v := ?_) (a' := ?_) bN46_ rfl rfl (any_of HT_.out (by kernel_rfl)) (fun _ _ _ h => h) (Or.inl ⟨by rfl, ?_⟩) ?_ ?_; rotate_left; (intro w'; go_simp; with_reducible rfl); rotate_left; (simp only [Act.put, List.setIfInBounds_toArray, List.set_cons_zero, List.set_cons_succ, i64_w, i32_w]; rfl)
         refine take_ (i := 19) (N := some 50) (v := ?_) (a' := ?_) bN47_ rfl rfl (take_ofW HT_.out HW_.out (by kernel_rfl)) (fun _ _ _ h => h) (Or.inl ⟨by rfl, ?_⟩) hHeld ?_ ?_; rotate_left; (rintro w' ⟨s0, s1, s2, s3, s4, s5, s6, s7, s8, s9, s10, s11, s12, s13, s14, s15, s16, s17, s18, s19, s20, s21, s22⟩; go_simp; with_reducible rfl); rotate_left; (simp only [Act.put, List.setIfInBounds_toArray, List.set_cons_zero, List.set_cons_succ, i64_w, i32_w]; rfl)
         refine pure_ (i := 20) (N := some 51) (v := ?_) (a' := ?_) bN48_ rfl rfl (any_of HT_.out (by kernel_rfl)) (fun _ _ _ h => h) (Or.inl ⟨by rfl, ?_⟩) ?_ ?_; rotate_left; (intro w'; go_simp; with_reducible rfl); rotate_left; (simp only [Act.put, List.setIfInBounds_toArray, List.set_cons_zero, List.set_cons_succ, i64_w, i32_w]; rfl)
         refine pure_ (i := 21) (N := some 52) (v := ?_) (a' := ?_) bN49_ rfl rfl (any_of HT_.out (by kernel_rfl)) (fun _ _ _ h => h) (Or.inl ⟨by rfl, ?_⟩) ?_ ?_; rotate_left; (intro w'; go_simp; with_reducible rfl); rotate_left; (simp only [Act.put, List.setIfInBounds_toArray, List.set_cons_zero, List.set_cons_succ, i64_w, i32_w]; rfl)
         refine pure_ (i := 22) (N := some 53) (v := ?_) (a' := ?_) bN50_ rfl rfl (any_of HT_.out (by kernel_rfl)) (fun _ _ _ h => h) (Or.inl ⟨by rfl, ?_⟩) ?_ ?_; rotate_left; (intro w'; go_simp; with_reducible rfl); rotate_left; (simp only [Act.put, List.setIfInBounds_toArray, List.set_cons_zero, List.set_cons_succ, i64_w, i32_w]; rfl)
         refine pure_ (i := 23) (N := some 54) (v := ?_) (a' := ?_) bN51_ rfl rfl (any_of HT_.out (by kernel_rfl)) (fun _ _ _ h => h) (Or.inl ⟨by rfl, ?_⟩) ?_ ?_; rotate_left; (intro w'; go_simp; with_reducible rfl); rotate_left; (simp only [Act.put, List.setIfInBounds_toArray, List.set_cons_zero, List.set_cons_succ, i64_w, i32_w]; rfl)
         refine pure_ (i := 24) (N := some 55) (v := undef) (a' := ?_) bN52_ rfl rfl (any_of HT_.out (by kernel_rfl)) (fun _ _ _ h => h) (Or.inr ⟨by rfl, rfl⟩) ?_ ?_; rotate_left; (simp only [Act.put, List.setIfInBounds_toArray, List.set_cons_zero, List.set_cons_succ, i64_w, i32_w]; rfl)
         refine pure_ (i := 25) (N := some 56) (v := undef) (a' := ?_) bN53_ rfl rfl (any_of HT_.out (by kernel_rfl)) (fun _ _ _ h => h) (Or.inr ⟨by rfl, rfl⟩) ?_ ?_; rotate_left; (simp only [Act.put, List.setIfInBounds_toArray, List.set_cons_zero, List.set_cons_succ, i64_w, i32_w]; rfl)
         refine pure_ (i := 26) (N := some 57) (v := undef) (a' := ?_) bN54_ rfl rfl (any_of HT_.out (by kernel_rfl)) (fun _ _ _ h => h) (Or.inr ⟨by rfl, rfl⟩) ?_ ?_; rotate_left; (simp only [Act.put, List.setIfInBounds_toArray, List.set_cons_zero, List.set_cons_succ, i64_w, i32_w]; rfl)
         refine pure_ (i := 27) (N := some 58) (v := ?_) (a' := ?_) bN55_ rfl rfl (any_of HT_.out (by kernel_rfl)) (fun _ _ _ h => h) (Or.inl ⟨by rfl, ?_⟩) ?_ ?_; rotate_left; (intro w'; go_simp; with_reducible rfl); rotate_left; (simp only [Act.put, List.setIfInBounds_toArray, List.set_cons_zero, List.set_cons_succ, i64_w, i32_w]; rfl)
         refine done_ (done_of HT_.out (by kernel_rfl)) ?_
         try go_wp2
         go_meet
         case rel => exact ⟨_, (false), (by first | rfl | (simp; done) | (simp [*]; done)), H', ⟨by have := HK1.out; first | omega | exact Nat.le_refl _⟩, ⟨vx_ HO_246000⟩, ⟨vx_ HO249⟩, ⟨bx_ BK243⟩, ⟨bx_ BK245⟩, ⟨bx_ BK255⟩, ⟨bx_ BK256⟩, ⟨hx_ HB⟩⟩
      ·rw [if_neg c26] at H
       have c26b0 : (((rd_T38 l0 x9_1).f1.f0) == a1_0 && (((rd_T38 l0 x9_1).f1.f1) == a1_1)) = false := by simpa using c26
       (try (have c26b1 : decide (((rd_T38 l0 x9_1).f1.f0) = a1_0 && (((rd_T38 l0 x9_1).f1.f1) == a1_1)) = false := by simpa using c26))
       (try (have c26b2 : (((rd_T38 l0 x9_1).f1.f0) == a1_0 && (((rd_T38 l0 x9_1).f1.f1) == a1_1)) = false := by simpa using c26))
       (try (have c26b3 : ¬ (((rd_T38 l0 x9_1).f1.f0) = a1_0 && (((rd_T38 l0 x9_1).f1.f1) == a1_1)) := by simpa using c26))
       clear c26
       (first | rw [c26b0] | (simp only [i64_w, i32_w]; rw [c26b0]) | skip)
       have H' := am_ H
       clear H
       try go_wp2
       have n0_ : Aside0 (Kd.V k42 42 ((((((w18.setCell ⟨gb255, 0, none⟩ (.slice Ao19 t247.length co19)).setCell ⟨gb256, 0, none⟩ (.int .i64 t250)).setCell ⟨gb256, 1, none⟩ (.string t251)).setCell ⟨gb256, 2, none⟩ (.int .u64 t252)).setCell ⟨gb256, 3, none⟩ (.bool t253)).setCell ⟨gb256, 4, none⟩ (.bool t254)) w.heap.size (fun k_ => k_ ≠ gb243 ∧ k_ ≠ gb245 ∧ k_ ≠ gb255 ∧ k_ ≠ gb256) (.slice Ao13 x246000_1.length co13) x246000_1) := ⟨by (with_reducible repeat (first | apply Kd.V_alloc | apply Kd.V_drewN | apply Kd.V_drew)); exact Kd.V_mono (Kd.V_far (p := ⟨gb256, 4, none⟩) (Kd.V_far (p := ⟨gb256, 3, none⟩) (Kd.V_far (p := ⟨gb256, 2, none⟩) (Kd.V_far (p := ⟨gb256, 1, none⟩) (Kd.V_far (p := ⟨gb256, 0, none⟩) (Kd.V_far (p := ⟨gb255, 0, none⟩) (Kd.V_mono (Kd.V_mono HO_246000.out (fun k_ hk => (⟨hk, hk.2.2.1⟩ : _ ∧ k_ ≠ gb255))) (fun k_ hk => (⟨hk, hk.1.2.2.2⟩ : _ ∧ k_ ≠ gb256))) (fun _ hk => hk.1.2) (.slice Ao19 t247.length co19)) (fun _ hk => hk.2) (.int .i64 t250)) (fun _ hk => hk.2) (.string t251)) (fun _ hk => hk.2) (.int .u64 t252)) (fun _ hk => hk.2) (.bool t253)) (fun _ hk => hk.2) (.bool t254)) (fun _ hk => ⟨hk.1.1.1, ⟨hk.1.1.2.1, ⟨hk.1.1.2.2.1, hk.1.1.2.2.2⟩⟩⟩)⟩
       have n1_ : Aside0 (Kd.V k42 42 ((((((w18.setCell ⟨gb255, 0, none⟩ (.slice Ao19 t247.length co19)).setCell ⟨gb256, 0, none⟩ (.int .i64 t250)).setCell ⟨gb256, 1, none⟩ (.string t251)).setCell ⟨gb256, 2, none⟩ (.int .u64 t252)).setCell ⟨gb256, 3, none⟩ (.bool t253)).setCell ⟨gb256, 4, none⟩ (.bool t254)) w.heap.size (fun k_ => k_ ≠ gb243 ∧ k_ ≠ gb245 ∧ k_ ≠ gb255 ∧ k_ ≠ gb256) (.slice Ao19 t247.length co19) t247) := ⟨by (with_reducible repeat (first | apply Kd.V_alloc | apply Kd.V_drewN | apply Kd.V_drew)); exact Kd.V_mono (Kd.V_far (p := ⟨gb256, 4, none⟩) (Kd.V_far (p := ⟨gb256, 3, none⟩) (Kd.V_far (p := ⟨gb256, 2, none⟩) (Kd.V_far (p := ⟨gb256, 1, none⟩) (Kd.V_far (p := ⟨gb256, 0, none⟩) (Kd.V_far (p := ⟨gb255, 0, none⟩) (Kd.V_mono (Kd.V_mono HO249.out (fun k_ hk => (⟨hk, hk.2.2.1⟩ : _ ∧ k_ ≠ gb255))) (fun k_ hk => (⟨hk, hk.1.2.2.2⟩ : _ ∧ k_ ≠ gb256))) (fun _ hk => hk.1.2) (.slice Ao19 t247.length co19)) (fun _ hk => hk.2) (.int .i64 t250)) (fun _ hk => hk.2) (.string t251)) (fun _ hk => hk.2) (.int .u64 t252)) (fun _ hk => hk.2) (.bool t253)) (fun _ hk => hk.2) (.bool t254)) (fun _ hk => ⟨hk.1.1.1, ⟨hk.1.1.2.1, ⟨hk.1.1.2.2.1, hk.1.1.2.2.2⟩⟩⟩)⟩
       have n2_ : Aside0 (((((((w18.setCell ⟨gb255, 0, none⟩ (.slice Ao19 t247.length co19)).setCell ⟨gb256, 0, none⟩ (.int .i64 t250)).setCell ⟨gb256, 1, none⟩ (.string t251)).setCell ⟨gb256, 2, none⟩ (.int .u64 t252)).setCell ⟨gb256, 3, none⟩ (.bool t253)).setCell ⟨gb256, 4, none⟩ (.bool t254)).heap[gb243]? = some (.cells #[.int .u64 a1_0, .int .u64 a1_1] 34 (0, 0))) := ⟨by (with_reducible repeat (first | refine blk_drewN ?_ _ | refine blk_drew ?_ | refine blk_alloc ?_ _)); refine blk_far ?_ NB243_256.out _; (with_reducible repeat (first | refine blk_drewN ?_ _ | refine blk_drew ?_ | refine blk_alloc ?_ _)); refine blk_far ?_ NB243_256.out _; (with_reducible repeat (first | refine blk_drewN ?_ _ | refine blk_drew ?_ | refine blk_alloc ?_ _)); refine blk_far ?_ NB243_256.out _; (with_reducible repeat (first | refine blk_drewN ?_ _ | refine blk_drew ?_ | refine blk_alloc ?_ _)); refine blk_far ?_ NB243_256.out _; (with_reducible repeat (first | refine blk_drewN ?_ _ | refine blk_drew ?_ | refine blk_alloc ?_ _)); refine blk_far ?_ NB243_256.out _; (with_reducible repeat (first | refine blk_drewN ?_ _ | refine blk_drew ?_ | refine blk_alloc ?_ _)); refine blk_far ?_ NB243_255.out _; (with_reducible repeat (first | refine blk_drewN ?_ _ | refine blk_drew ?_ | refine blk_alloc ?_ _)); exact BK243.out⟩
       have n3_ : Aside0 (((((((w18.setCell ⟨gb255, 0, none⟩ (.slice Ao19 t247.length co19)).setCell ⟨gb256, 0, none⟩ (.int .i64 t250)).setCell ⟨gb256, 1, none⟩ (.string t251)).setCell ⟨gb256, 2, none⟩ (.int .u64 t252)).setCell ⟨gb256, 3, none⟩ (.bool t253)).setCell ⟨gb256, 4, none⟩ (.bool t254)).heap[gb245]? = some (.cells #[.slice Ao13 x246000_1.length co13] 26 (0, 0))) := ⟨by (with_reducible repeat (first | refine blk_drewN ?_ _ | refine blk_drew ?_ | refine blk_alloc ?_ _)); refine blk_far ?_ NB245_256.out _; (with_reducible repeat (first | refine blk_drewN ?_ _ | refine blk_drew ?_ | refine blk_alloc ?_ _)); refine blk_far ?_ NB245_256.out _; (with_reducible repeat (first | refine blk_drewN ?_ _ | refine blk_drew ?_ | refine blk_alloc ?_ _)); refine blk_far ?_ NB245_256.out _; (with_reducible repeat (first | refine blk_drewN ?_ _ | refine blk_drew ?_ | refine blk_alloc ?_ _)); refine blk_far ?_ NB245_256.out _; (with_reducible repeat (first | refine blk_drewN ?_ _ | refine blk_drew ?_ | refine blk_alloc ?_ _)); refine blk_far ?_ NB245_256.out _; (with_reducible repeat (first | refine blk_drewN ?_ _ | refine blk_drew ?_ | refine blk_alloc ?_ _)); refine blk_far ?_ NB245_255.out _; (with_reducible repeat (first | refine blk_drewN ?_ _ | refine blk_drew ?_ | refine blk_alloc ?_ _)); exact BK245.out⟩
       have n4_ : Aside0 (((((((w18.setCell ⟨gb255, 0, none⟩ (.slice Ao19 t247.length co19)).setCell ⟨gb256, 0, none⟩ (.int .i64 t250)).setCell ⟨gb256, 1, none⟩ (.string t251)).setCell ⟨gb256, 2, none⟩ (.int .u64 t252)).setCell ⟨gb256, 3, none⟩ (.bool t253)).setCell ⟨gb256, 4, none⟩ (.bool t254)).heap[gb255]? = some (.cells #[.slice Ao19 t247.length co19] 26 (0, 0))) := ⟨by (with_reducible repeat (first | refine blk_drewN ?_ _ | refine blk_drew ?_ | refine blk_alloc ?_ _)); refine blk_far ?_ NB255_256.out _; (with_reducible repeat (first | refine blk_drewN ?_ _ | refine blk_drew ?_ | refine blk_alloc ?_ _)); refine blk_far ?_ NB255_256.out _; (with_reducible repeat (first | refine blk_drewN ?_ _ | refine blk_drew ?_ | refine blk_alloc ?_ _)); refine blk_far ?_ NB255_256.out _; (with_reducible repeat (first | refine blk_drewN ?_ _ | refine blk_drew ?_ | refine blk_alloc ?_ _)); refine blk_far ?_ NB255_256.out _; (with_reducible repeat (first | refine blk_drewN ?_ _ | refine blk_drew ?_ | refine blk_alloc ?_ _)); refine blk_far ?_ NB255_256.out _; (with_reducible repeat (first | refine blk_drewN ?_ _ | refine blk_drew ?_ | refine blk_alloc ?_ _)); refine blk_put (cs := #[.slice none 0 0]) ?_ 0 _ rfl; (with_reducible repeat (first | refine blk_drewN ?_ _ | refine blk_drew ?_ | refine blk_alloc ?_ _)); exact BK255.out⟩
       have n5_ : Aside0 (((((((w18.setCell ⟨gb255, 0, none⟩ (.slice Ao19 t247.length co19)).setCell ⟨gb256, 0, none⟩ (.int .i64 t250)).setCell ⟨gb256, 1, none⟩ (.string t251)).setCell ⟨gb256, 2, none⟩ (.int .u64 t252)).setCell ⟨gb256, 3, none⟩ (.bool t253)).setCell ⟨gb256, 4, none⟩ (.bool t254)).heap[gb256]? = some (.cells #[.int .i64 t250, .string t251, .int .u64 t252, .bool t253, .bool t254] 30 (0, 0))) := ⟨by (with_reducible repeat (first | refine blk_drewN ?_ _ | refine blk_drew ?_ | refine blk_alloc ?_ _)); refine blk_put (cs := #[.int .i64 t250, .string t251, .int .u64 t252, .bool t253, .bool false]) ?_ 4 _ rfl; (with_reducible repeat (first | refine blk_drewN ?_ _ | refine blk_drew ?_ | refine blk_alloc ?_ _)); refine blk_put (cs := #[.int .i64 t250, .string t251, .int .u64 t252, .bool false, .bool false]) ?_ 3 _ rfl; (with_reducible repeat (first | refine blk_drewN ?_ _ | refine blk_drew ?_ | refine blk_alloc ?_ _)); refine blk_put (cs := #[.int .i64 t250, .string t251, .int .u64 0, .bool false, .bool false]) ?_ 2 _ rfl; (with_reducible repeat (first | refine blk_drewN ?_ _ | refine blk_drew ?_ | refine blk_alloc ?_ _)); refine blk_put (cs := #[.int .i64 t250, .string (⟨#[]⟩ : ByteArray), .int .u64 0, .bool false, .bool false]) ?_ 1 _ rfl; (with_reducible repeat (first | refine blk_drewN ?_ _ | refine blk_drew ?_ | refine blk_alloc ?_ _)); refine blk_put (cs := #[.int .i64 0, .string (⟨#[]⟩ : ByteArray), .int .u64 0, .bool false, .bool false]) ?_ 0 _ rfl; (with_reducible repeat (first | refine blk_drewN ?_ _ | refine blk_drew ?_ | refine blk_alloc ?_ _)); refine blk_far ?_ NB256_255.out _; (with_reducible repeat (first | refine blk_drewN ?_ _ | refine blk_drew ?_ | refine blk_alloc ?_ _)); exact BK256.out⟩
       have n6_ : Aside0 (Below w.heap.size w ((((((w18.setCell ⟨gb255, 0, none⟩ (.slice Ao19 t247.length co19)).setCell ⟨gb256, 0, none⟩ (.int .i64 t250)).setCell ⟨gb256, 1, none⟩ (.string t251)).setCell ⟨gb256, 2, none⟩ (.int .u64 t252)).setCell ⟨gb256, 3, none⟩ (.bool t253)).setCell ⟨gb256, 4, none⟩ (.bool t254))) := ⟨hx_ HB⟩
       (try clear HO_246000)
       (try clear HO249)
       (try clear BK243)
       (try clear BK245)
       (try clear BK255)
       (try clear BK256)
       (try clear HB)
       generalize ((((((w18.setCell ⟨gb255, 0, none⟩ (.slice Ao19 t247.length co19)).setCell ⟨gb256, 0, none⟩ (.int .i64 t250)).setCell ⟨gb256, 1, none⟩ (.string t251)).setCell ⟨gb256, 2, none⟩ (.int .u64 t252)).setCell ⟨gb256, 3, none⟩ (.bool t253)).setCell ⟨gb256, 4, none⟩ (.bool t254)) = w35 at n0_ n1_ n2_ n3_ n4_ n5_ n6_ ⊢
       have HO_246000 := n0_
       have HO249 := n1_
       have BK243 := n2_
       have BK245 := n3_
       have BK255 := n4_
       have BK256 := n5_
       have HB := n6_
       clear n0_ n1_ n2_ n3_ n4_ n5_ n6_
       have n0_ := am_ (Kd.V_drew HO_246000.out)
       have n1_ := am_ (Kd.V_drew HO249.out)
       have n2_ := am_ (blk_drew BK243.out)
       have n3_ := am_ (blk_drew BK245.out)
       have n4_ := am_ (blk_drew BK255.out)
       have n5_ := am_ (blk_drew BK256.out)
       have n6_ := am_ (below_drew1 HB.out)
       clear HO_246000
       clear HO249
       clear BK243
       clear BK245
       clear BK255
       clear BK256
       clear HB
       have HO_246000 := n0_
       have HO249 := n1_
       have BK243 := n2_
       have BK245 := n3_
       have BK255 := n4_
       have BK256 := n5_
       have HB := n6_
       clear n0_ n1_ n2_ n3_ n4_ n5_ n6_
       have p257 : 0 ≤ (x9_1 : Int) := of_decide_eq_true (by first | (with_reducible assumption) | assumption)
       have q257 : x9_1 < (l0.length : Int) := of_decide_eq_true (by first | (with_reducible assumption) | assumption)
       obtain ⟨ad257, A257_4, c257_4, A257_6, c257_6, e257, hx257_0, hx257_1, hx257_2, hx257_3, hx257_4, hx257_5, hx257_6, hl257_4, hi257_4, hl257_6, hi257_6⟩ := at_T38 HR0.out x9_1 p257 q257
       have hw257_6 := hx257_6
       have hw257_5 := hx257_5
       have hw257_4 := hx257_4
       have hw257_3 := hx257_3
       have hw257_2 := hx257_2
       have hw257_1 := hx257_1
       have hw257_0 := hx257_0
       obtain rfl : ad246 = ad257 := (by injection e257)
       replace hx257_0 := (HB.out.cell (World.block_lt_of_cell? w _ hx257_0)).trans hx257_0
       replace hx257_1 := (HB.out.cell (World.block_lt_of_cell? w _ hx257_1)).trans hx257_1
       replace hx257_2 := (HB.out.cell (World.block_lt_of_cell? w _ hx257_2)).trans hx257_2
       replace hx257_3 := (HB.out.cell (World.block_lt_of_cell? w _ hx257_3)).trans hx257_3
       replace hx257_4 := (HB.out.cell (World.block_lt_of_cell? w _ hx257_4)).trans hx257_4
       replace hx257_5 := (HB.out.cell (World.block_lt_of_cell? w _ hx257_5)).trans hx257_5
       replace hx257_6 := (HB.out.cell (World.block_lt_of_cell? w _ hx257_6)).trans hx257_6
       have HR257_4 := am_ hi257_4
       have HC257_4 := am_ hl257_4
       clear hi257_4 hl257_4
       have HR257_6 := am_ hi257_6
       have HC257_6 := am_ hl257_6
       clear hi257_6 hl257_6
       replace p257 := eq_true p257
       replace q257 := eq_true q257
       refine start_ (n := 28) (S := fun w' => w'.cell? ⟨gb243, 0, none⟩ = some (.int .u64 a1_0) ∧ w'.cell? ⟨gb243, 1, none⟩ = some (.int .u64 a1_1) ∧ w'.cell? (ad246.add ((x9_1).toNat * 7)) = some (.int .i64 ((rd_T38 l0 x9_1).f0)) ∧ w'.cell? ⟨(ad246.add ((x9_1).toNat * 7)).block, (ad246.add ((x9_1).toNat * 7)).off + 1, none⟩ = some (.int .u64 ((rd_T38 l0 x9_1).f1.f0)) ∧ w'.cell? ⟨(ad246.add ((x9_1).toNat * 7)).block, (ad246.add ((x9_1).toNat * 7)).off + 2, none⟩ = some (.int .u64 ((rd_T38 l0 x9_1).f1.f1)) ∧ w'.cell? ⟨(ad246.add ((x9_1).toNat * 7)).block, (ad246.add ((x9_1).toNat * 7)).off + 3, none⟩ = some (.string ((rd_T38 l0 x9_1).f2)) ∧ w'.cell? ⟨(ad246.add ((x9_1).toNat * 7)).block, (ad246.add ((x9_1).toNat * 7)).off + 4, none⟩ = some (.slice A257_4 ((rd_T38 l0 x9_1).f3).length c257_4) ∧ w'.cell? ⟨(ad246.add ((x9_1).toNat * 7)).block, (ad246.add ((x9_1).toNat * 7)).off + 5, none⟩ = some (.bool ((rd_T38 l0 x9_1).f4)) ∧ w'.cell? ⟨(ad246.add ((x9_1).toNat * 7)).block, (ad246.add ((x9_1).toNat * 7)).off + 6, none⟩ = some (.slice A257_6 ((rd_T38 l0 x9_1).f5).length c257_6)) (ds := []) bN27_ (by kernel_rfl) rfl rfl ⟨(blk_cell BK243.out 0).trans rfl, (blk_cell BK243.out 1).trans rfl, ((HB.out.cell (World.block_lt_of_cell? w _ hw257_0)).trans hw257_0), ((HB.out.cell (World.block_lt_of_cell? w _ hw257_1)).trans hw257_1), ((HB.out.cell (World.block_lt_of_cell? w _ hw257_2)).trans hw257_2), ((HB.out.cell (World.block_lt_of_cell? w _ hw257_3)).trans hw257_3), ((HB.out.cell (World.block_lt_of_cell? w _ hw257_4)).trans hw257_4), ((HB.out.cell (World.block_lt_of_cell? w _ hw257_5)).trans hw257_5), ((HB.out.cell (World.block_lt_of_cell? w _ hw257_6)).trans hw257_6)⟩ (fun hHeld => ?_); refine with_tabW ferrulelaw14_CoordOnce.tab9 ferrulelaw14_CoordOnce.bits9 (fun HT_ HW_ => ?_)
       generalize w35.drew = w36 at HO_246000 HO249 BK243 BK245 BK255 BK256 HB HR257_4 HR257_6 hx257_0 hx257_1 hx257_2 hx257_3 hx257_4 hx257_5 hx257_6 hHeld ⊢
       refine pure_ (i := 0) (N := some 31) (v := ?_) (a' := ?_) bN28_ rfl rfl (any_of HT_.out (by kernel_rfl)) (fun _ _ _ h => h) (Or.inl ⟨by rfl, ?_⟩) ?_ ?_; rotate_left; (intro w'; go_simp; with_reducible rfl); rotate_left; (simp only [Act.put, List.setIfInBounds_toArray, List.set_cons_zero, List.set_cons_succ, i64_w, i32_w]; rfl)
       refine pure_ (i := 1) (N := some 32) (v := ?_) (a' := ?_) bN29_ rfl rfl (any_of HT_.out (by kernel_rfl)) (fun _ _ _ h => h) (Or.inl ⟨by rfl, ?_⟩) ?_ ?_; rotate_left; (intro w'; go_simp; with_reducible rfl); rotate_left; (simp only [Act.put, List.setIfInBounds_toArray, List.set_cons_zero, List.set_cons_succ, i64_w, i32_w]; rfl)
       refine pure_ (i := 2) (N := some 33) (v := ?_) (a' := ?_) bN30_ rfl rfl (any_of HT_.out (by kernel_rfl)) (fun _ _ _ h => h) (Or.inl ⟨by rfl, ?_⟩) ?_ ?_; rotate_left; (intro w'; go_simp; with_reducible rfl); rotate_left; (simp only [Act.put, List.setIfInBounds_toArray, List.set_cons_zero, List.set_cons_succ, i64_w, i32_w]; rfl)
       refine pure_ (i := 3) (N := some 34) (v := ?_) (a' := ?_) bN31_ rfl rfl (any_of HT_.out (by kernel_rfl)) (fun _ _ _ h => h) (Or.inl ⟨by rfl, ?_⟩) ?_ ?_; rotate_left; (intro w'; go_simp; with_reducible rfl); rotate_left; (simp only [Act.put, List.setIfInBounds_toArray, List.set_cons_zero, List.set_cons_succ, i64_w, i32_w]; rfl)
       refine take_ (i := 4) (N := some 35) (v := ?_) (a' := ?_) bN32_ rfl rfl (take_ofW HT_.out HW_.out (by kernel_rfl)) (fun _ _ _ h => h) (Or.inl ⟨by rfl, ?_⟩) hHeld ?_ ?_; rotate_left; (rintro w' ⟨s0, s1, s2, s3, s4, s5, s6, s7, s8⟩; go_simp; with_reducible rfl); rotate_left; (simp only [Act.put, List.setIfInBounds_toArray, List.set_cons_zero, List.set_cons_succ, i64_w, i32_w]; rfl)
       refine take_ (i := 5) (N := some 36) (v := ?_) (a' := ?_) bN33_ rfl rfl (take_ofW HT_.out HW_.out (by kernel_rfl)) (fun _ _ _ h => h) (Or.inl ⟨by rfl, ?_⟩) hHeld ?_ ?_; rotate_left; (rintro w' ⟨s0, s1, s2, s3, s4, s5, s6, s7, s8⟩; go_simp; with_reducible rfl); rotate_left; (simp only [Act.put, List.setIfInBounds_toArray, List.set_cons_zero, List.set_cons_succ, i64_w, i32_w]; rfl)
       refine pure_ (i := 6) (N := some 37) (v := ?_) (a' := ?_) bN34_ rfl rfl (any_of HT_.out (by kernel_rfl)) (fun _ _ _ h => h) (Or.inl ⟨by rfl, ?_⟩) ?_ ?_; rotate_left; (intro w'; go_simp; with_reducible rfl); rotate_left; (simp only [Act.put, List.setIfInBounds_toArray, List.set_cons_zero, List.set_cons_succ, i64_w, i32_w]; rfl)
       refine pure_ (i := 7) (N := some 38) (v := ?_) (a' := ?_) bN35_ rfl rfl (any_of HT_.out (by kernel_rfl)) (fun _ _ _ h => h) (Or.inl ⟨by rfl, ?_⟩) ?_ ?_; rotate_left; (intro w'; go_simp; with_reducible rfl); rotate_left; (simp only [Act.put, List.setIfInBounds_toArray, List.set_cons_zero, List.set_cons_succ, i64_w, i32_w]; rfl)
       refine pure_ (i := 8) (N := some 39) (v := undef) (a' := ?_) bN36_ rfl rfl (any_of HT_.out (by kernel_rfl)) (fun _ _ _ h => h) (Or.inr ⟨by rfl, rfl⟩) ?_ ?_; rotate_left; (simp only [Act.put, List.setIfInBounds_toArray, List.set_cons_zero, List.set_cons_succ, i64_w, i32_w]; rfl)
       refine pure_ (i := 9) (N := some 40) (v := undef) (a' := ?_) bN37_ rfl rfl (any_of HT_.out (by kernel_rfl)) (fun _ _ _ h => h) (Or.inr ⟨by rfl, rfl⟩) ?_ ?_; rotate_left; (simp only [Act.put, List.setIfInBounds_toArray, List.set_cons_zero, List.set_cons_succ, i64_w, i32_w]; rfl)
       refine pure_ (i := 10) (N := some 41) (v := undef) (a' := ?_) bN38_ rfl rfl (any_of HT_.out (by kernel_rfl)) (fun _ _ _ h => h) (Or.inr ⟨by rfl, rfl⟩) ?_ ?_; rotate_left; (simp only [Act.put, List.setIfInBounds_toArray, List.set_cons_zero, List.set_cons_succ, i64_w, i32_w]; rfl)
       refine pure_ (i := 11) (N := some 42) (v := undef) (a' := ?_) bN39_ rfl rfl (any_of HT_.out (by kernel_rfl)) (fun _ _ _ h => h) (Or.inr ⟨by rfl, rfl⟩) ?_ ?_; rotate_left; (simp only [Act.put, List.setIfInBounds_toArray, List.set_cons_zero, List.set_cons_succ, i64_w, i32_w]; rfl)
       refine pure_ (i := 12) (N := some 43) (v := undef) (a' := ?_) bN40_ rfl rfl (any_of HT_.out (by kernel_rfl)) (fun _ _ _ h => h) (Or.inr ⟨by rfl, rfl⟩) ?_ ?_; rotate_left; (simp only [Act.put, List.setIfInBounds_toArray, List.set_cons_zero, List.set_cons_succ, i64_w, i32_w]; rfl)
       refine pure_ (i := 13) (N := some 44) (v := undef) (a' := ?_) bN41_ rfl rfl (any_of HT_.out (by kernel_rfl)) (fun _ _ _ h => h) (Or.inr ⟨by rfl, rfl⟩) ?_ ?_; rotate_left; (simp only [Act.put, List.setIfInBounds_toArray, List.set_cons_zero, List.set_cons_succ, i64_w, i32_w]; rfl)
       refine pure_ (i := 14) (N := some 45) (v := undef) (a' := ?_) bN42_ rfl rfl (any_of HT_.out (by kernel_rfl)) (fun _ _ _ h => h) (Or.inr ⟨by rfl, rfl⟩) ?_ ?_; rotate_left; (simp only [Act.put, List.setIfInBounds_toArray, List.set_cons_zero, List.set_cons_succ, i64_w, i32_w]; rfl)
       refine pure_ (i := 15) (N := some 46) (v := undef) (a' := ?_) bN43_ rfl rfl (any_of HT_.out (by kernel_rfl)) (fun _ _ _ h => h) (Or.inr ⟨by rfl, rfl⟩) ?_ ?_; rotate_left; (simp only [Act.put, List.setIfInBounds_toArray, List.set_cons_zero, List.set_cons_succ, i64_w, i32_w]; rfl)
       refine pure_ (i := 16) (N := some 47) (v := undef) (a' := ?_) bN44_ rfl rfl (any_of HT_.out (by kernel_rfl)) (fun _ _ _ h => h) (Or.inr ⟨by rfl, rfl⟩) ?_ ?_; rotate_left; (simp only [Act.put, List.setIfInBounds_toArray, List.set_cons_zero, List.set_cons_succ, i64_w, i32_w]; rfl)
       refine pure_ (i := 17) (N := some 48) (v := undef) (a' := ?_) bN45_ rfl rfl (any_of HT_.out (by kernel_rfl)) (fun _ _ _ h => h) (Or.inr ⟨by rfl, rfl⟩) ?_ ?_; rotate_left; (simp only [Act.put, List.setIfInBounds_toArray, List.set_cons_zero, List.set_cons_succ, i64_w, i32_w]; rfl)
       refine pure_ (i := 18) (N := some 49) (v := undef) (a' := ?_) bN46_ rfl rfl (any_of HT_.out (by kernel_rfl)) (fun _ _ _ h => h) (Or.inr ⟨by rfl, rfl⟩) ?_ ?_; rotate_left; (simp only [Act.put, List.setIfInBounds_toArray, List.set_cons_zero, List.set_cons_succ, i64_w, i32_w]; rfl)
       refine pure_ (i := 19) (N := some 50) (v := undef) (a' := ?_) bN47_ rfl rfl (any_of HT_.out (by kernel_rfl)) (fun _ _ _ h => h) (Or.inr ⟨by rfl, rfl⟩) ?_ ?_; rotate_left; (simp only [Act.put, List.setIfInBounds_toArray, List.set_cons_zero, List.set_cons_succ, i64_w, i32_w]; rfl)
       refine pure_ (i := 20) (N := some 51) (v := undef) (a' := ?_) bN48_ rfl rfl (any_of HT_.out (by kernel_rfl)) (fun _ _ _ h => h) (Or.inr ⟨by rfl, rfl⟩) ?_ ?_; rotate_left; (simp only [Act.put, List.setIfInBounds_toArray, List.set_cons_zero, List.set_cons_succ, i64_w, i32_w]; rfl)
       refine pure_ (i := 21) (N := some 52) (v := undef) (a' := ?_) bN49_ rfl rfl (any_of HT_.out (by kernel_rfl)) (fun _ _ _ h => h) (Or.inr ⟨by rfl, rfl⟩) ?_ ?_; rotate_left; (simp only [Act.put, List.setIfInBounds_toArray, List.set_cons_zero, List.set_cons_succ, i64_w, i32_w]; rfl)
       refine pure_ (i := 22) (N := some 53) (v := ?_) (a' := ?_) bN50_ rfl rfl (any_of HT_.out (by kernel_rfl)) (fun _ _ _ h => h) (Or.inl ⟨by rfl, ?_⟩) ?_ ?_; rotate_left; (intro w'; go_simp; with_reducible rfl); rotate_left; (simp only [Act.put, List.setIfInBounds_toArray, List.set_cons_zero, List.set_cons_succ, i64_w, i32_w]; rfl)
       refine pure_ (i := 23) (N := some 54) (v := ?_) (a' := ?_) bN51_ rfl rfl (any_of HT_.out (by kernel_rfl)) (fun _ _ _ h => h) (Or.inl ⟨by rfl, ?_⟩) ?_ ?_; rotate_left; (intro w'; go_simp; with_reducible rfl); rotate_left; (simp only [Act.put, List.setIfInBounds_toArray, List.set_cons_zero, List.set_cons_succ, i64_w, i32_w]; rfl)
       refine pure_ (i := 24) (N := some 55) (v := undef) (a' := ?_) bN52_ rfl rfl (any_of HT_.out (by kernel_rfl)) (fun _ _ _ h => h) (Or.inr ⟨by rfl, rfl⟩) ?_ ?_; rotate_left; (simp only [Act.put, List.setIfInBounds_toArray, List.set_cons_zero, List.set_cons_succ, i64_w, i32_w]; rfl)
       refine pure_ (i := 25) (N := some 56) (v := undef) (a' := ?_) bN53_ rfl rfl (any_of HT_.out (by kernel_rfl)) (fun _ _ _ h => h) (Or.inr ⟨by rfl, rfl⟩) ?_ ?_; rotate_left; (simp only [Act.put, List.setIfInBounds_toArray, List.set_cons_zero, List.set_cons_succ, i64_w, i32_w]; rfl)
       refine pure_ (i := 26) (N := some 57) (v := undef) (a' := ?_) bN54_ rfl rfl (any_of HT_.out (by kernel_rfl)) (fun _ _ _ h => h) (Or.inr ⟨by rfl, rfl⟩) ?_ ?_; rotate_left; (simp only [Act.put, List.setIfInBounds_toArray, List.set_cons_zero, List.set_cons_succ, i64_w, i32_w]; rfl)
       refine pure_ (i := 27) (N := some 58) (v := ?_) (a' := ?_) bN55_ rfl rfl (any_of HT_.out (by kernel_rfl)) (fun _ _ _ h => h) (Or.inl ⟨by rfl, ?_⟩) ?_ ?_; rotate_left; (intro w'; go_simp; with_reducible rfl); rotate_left; (simp only [Act.put, List.setIfInBounds_toArray, List.set_cons_zero, List.set_cons_succ, i64_w, i32_w]; rfl)
       refine done_ (done_of HT_.out (by kernel_rfl)) ?_
       try go_wp2
       go_meet
       case rel => exact ⟨_, (false), (by first | rfl | (simp; done) | (simp [*]; done)), H', ⟨by have := HK1.out; first | omega | exact Nat.le_refl _⟩, ⟨vx_ HO_246000⟩, ⟨vx_ HO249⟩, ⟨bx_ BK243⟩, ⟨bx_ BK245⟩, ⟨bx_ BK255⟩, ⟨bx_ BK256⟩, ⟨hx_ HB⟩⟩
     case rest =>
      clear HC12
      try clear c2
      try clear p2
      try clear q2
      try clear hx2
      try clear c25
      try clear p25
      try clear q25
      try clear hx25
      try clear c26
      try clear c26b0
      try clear c26b1
      try clear c26b2
      try clear hx257_0
      try clear hx257_1
      try clear hx257_2
      try clear hx257_3
      try clear hx257_4
      try clear hx257_5
      try clear hx257_6
      try clear hx258_0
      try clear hx258_1
      try clear hx258_2
      try clear hx258_3
      try clear hx258_4
      try clear hx258_5
      try clear hx258_6
      try clear hx259_0
      try clear hx259_1
      try clear hx259_2
      try clear hx259_3
      try clear hx259_4
      try clear hx259_5
      try clear hx259_6
      try clear p257
      try clear p258
      try clear p259
      try clear q257
      try clear q258
      try clear q259
      obtain ⟨kq, x58_11, rfl, HA, HJ11, HO_246000, HO_256000, BK243, BK245, BK255, BK256, HB⟩ := hcut
      cases kq with
      | zero => exact absurd HA.out (by simp [ferrulelaw14_CoordOnce.j1])
      | succ kj11 =>
       have H := HA.out
       clear HA
       simp only [ferrulelaw14_CoordOnce.j1] at H
       by_cases c37 : x58_11 = true
       ·subst c37
        have H1 : (if x7_1 = true then (ferrulelaw14_CoordOnce.j2 kj11 l0 t244 x9_1 (t254 != x8_1) a1_0 a1_1 t247 t250 t251 t252 t253 t254) else (ferrulelaw14_CoordOnce.j2 kj11 l0 t244 x9_1 false a1_0 a1_1 t247 t250 t251 t252 t253 t254)) = some r := by rw [if_pos rfl] at H; exact H
        clear H
        have H := H1
        clear H1
        have HC38 := am_ H
        clear H
        go_upto_region 10 with (fail)
        go_cut [65] (fun v65 wc => ∃ (kq : Nat) (x65_37 : Bool), v65 = .bool x65_37 ∧ Aside0 (ferrulelaw14_CoordOnce.j2 kq l0 t244 x9_1 x65_37 a1_0 a1_1 t247 t250 t251 t252 t253 t254 = some r) ∧ Aside0 (kq ≤ kj11) ∧ Aside0 (Kd.V k42 42 wc w.heap.size (fun k_ => k_ ≠ gb243 ∧ k_ ≠ gb245 ∧ k_ ≠ gb255 ∧ k_ ≠ gb256) (.slice Ao13 x246000_1.length co13) x246000_1) ∧ Aside0 (Kd.V k42 42 wc w.heap.size (fun k_ => k_ ≠ gb243 ∧ k_ ≠ gb245 ∧ k_ ≠ gb255 ∧ k_ ≠ gb256) (.slice Ao19 t247.length co19) t247) ∧ Aside0 (wc.heap[gb243]? = some (.cells #[.int .u64 a1_0, .int .u64 a1_1] 34 (0, 0))) ∧ Aside0 (wc.heap[gb245]? = some (.cells #[(.slice Ao13 x246000_1.length co13)] 26 (0, 0))) ∧ Aside0 (wc.heap[gb255]? = some (.cells #[(.slice Ao19 t247.length co19)] 26 (0, 0))) ∧ Aside0 (wc.heap[gb256]? = some (.cells #[.int .i64 t250, .string t251, .int .u64 t252, .bool t253, .bool t254] 30 (0, 0))) ∧ Aside0 (Below w.heap.size w wc))
        case first =>
         have H := HC38.out
         clear HC38
         by_cases c39 : x7_1 = true
         ·subst c39
          have H1 : (ferrulelaw14_CoordOnce.j2 kj11 l0 t244 x9_1 (t254 != x8_1) a1_0 a1_1 t247 t250 t251 t252 t253 t254) = some r := by rw [if_pos rfl] at H; exact H
          clear H
          have H := H1
          clear H1
          have H' := am_ H
          clear H
          have hnb40 := NB256_243.out
          have hnc40 := NB243_256.out
          have hnb41 := NB256_245.out
          have hnc41 := NB245_256.out
          have hnb42 := NB256_255.out
          have hnc42 := NB255_256.out
          have hcz43_0 : wc.cell? ⟨gb256, 0, none⟩ = some (.int .i64 t250) := (blk_cell BK256.out 0).trans rfl
          have hcz43_1 : wc.cell? ⟨gb256, 1, none⟩ = some (.string t251) := (blk_cell BK256.out 1).trans rfl
          have hcz43_2 : wc.cell? ⟨gb256, 2, none⟩ = some (.int .u64 t252) := (blk_cell BK256.out 2).trans rfl
          have hcz43_3 : wc.cell? ⟨gb256, 3, none⟩ = some (.bool t253) := (blk_cell BK256.out 3).trans rfl
          have hcz43_4 : wc.cell? ⟨gb256, 4, none⟩ = some (.bool t254) := (blk_cell BK256.out 4).trans rfl
          have hfz43_0 := blk_frozen BK256.out 0
          have hfz43_1 := blk_frozen BK256.out 1
          have hfz43_2 := blk_frozen BK256.out 2
          have hfz43_3 := blk_frozen BK256.out 3
          have hfz43_4 := blk_frozen BK256.out 4
          go_wp2
          go_meet
          case rel => exact ⟨_, ((t254 != x8_1)), (by first | rfl | (simp; done) | (simp [*]; done)), H', ⟨by have := HK1.out; have := HJ11.out; first | omega | exact Nat.le_refl _⟩, ⟨vx_ HO_246000⟩, ⟨vx_ HO_256000⟩, ⟨bx_ BK243⟩, ⟨bx_ BK245⟩, ⟨bx_ BK255⟩, ⟨bx_ BK256⟩, ⟨hx_ HB⟩⟩
         ·replace c39 := Bool.eq_false_iff.mpr c39
          subst c39
          have H1 : (ferrulelaw14_CoordOnce.j2 kj11 l0 t244 x9_1 false a1_0 a1_1 t247 t250 t251 t252 t253 t254) = some r := by rw [if_neg (show ¬ (false = true) by decide)] at H; exact H
          clear H
          have H := H1
          clear H1
          have H' := am_ H
          clear H
          go_wp2
          go_meet
          case rel => exact ⟨_, (false), (by first | rfl | (simp; done) | (simp [*]; done)), H', ⟨by have := HK1.out; have := HJ11.out; first | omega | exact Nat.le_refl _⟩, ⟨vx_ HO_246000⟩, ⟨vx_ HO_256000⟩, ⟨bx_ BK243⟩, ⟨bx_ BK245⟩, ⟨bx_ BK255⟩, ⟨bx_ BK256⟩, ⟨hx_ HB⟩⟩
        case rest =>
         clear HC38
         try clear c2
         try clear p2
         try clear q2
         try clear hx2
         try clear c3
         try clear c4
         try clear c25
         try clear p25
         try clear q25
         try clear hx25
         try clear c26
         try clear c26b0
         try clear c26b1
         try clear c26b2
         try clear c37
         try clear c39
         try clear c40
         try clear c41
         try clear c42
         try clear hcz43_0
         try clear hcz43_1
         try clear hcz43_2
         try clear hcz43_3
         try clear hcz43_4
         try clear hfz43_0
         try clear hfz43_1
         try clear hfz43_2
         try clear hfz43_3
         try clear hfz43_4
         try clear hx257_0
         try clear hx257_1
         try clear hx257_2
         try clear hx257_3
         try clear hx257_4
         try clear hx257_5
         try clear hx257_6
         try clear hx258_0
         try clear hx258_1
         try clear hx258_2
         try clear hx258_3
         try clear hx258_4
         try clear hx258_5
         try clear hx258_6
         try clear hx259_0
         try clear hx259_1
         try clear hx259_2
         try clear hx259_3
         try clear hx259_4
         try clear hx259_5
         try clear hx259_6
         try clear p2
         try clear p25
         try clear p257
         try clear p258
         try clear p259
         try clear q2
         try clear q25
         try clear q257
         try clear q258
         try clear q259
         obtain ⟨kq, x65_37, rfl, HA, HJ37, HO_246000, HO_256000, BK243, BK245, BK255, BK256, HB⟩ := hcut
         cases kq with
         | zero => exact absurd HA.out (by simp [ferrulelaw14_CoordOnce.j2])
         | succ kj37 =>
          have H := HA.out
          clear HA
          simp only [ferrulelaw14_CoordOnce.j2] at H
          by_cases c44 : x65_37 = true
          ·subst c44
           have H1 : (none) = some r := by rw [if_pos rfl] at H; exact H
           clear H
           have H := H1
           clear H1
           exact absurd H (by simp)
          ·replace c44 := Bool.eq_false_iff.mpr c44
           subst c44
           have H1 : ((ferruleref14_Find.f kj37 t247 a1_0 a1_1).bind fun bt260 => (if bt260.2.2.2.2 = true then (if bt260.2.2.2.1 = 0 then (none) else (if ((bt260.2.2.2.1 == 1) != t254) = true then (none) else (ferrulelaw14_CoordOnce.l0 kj37 l0 t244 true t254 (wrap64 (x9_1 + 1)) a1_0 a1_1 t247))) else (none))) = some r := by rw [if_neg (show ¬ (false = true) by decide)] at H; exact H
           clear H
           have H := H1
           clear H1
           replace H := Option.bind_eq_some_iff.mp H
           obtain ⟨⟨t260, t261, t262, t265, t266⟩, A450, H⟩ := H
           replace H : (if t266 = true then (if t265 = 0 then (none) else (if ((t265 == 1) != t254) = true then (none) else (ferrulelaw14_CoordOnce.l0 kj37 l0 t244 true t254 (wrap64 (x9_1 + 1)) a1_0 a1_1 t247))) else (none)) = some r := H
           have A45 := am_ A450
           clear A450
           by_cases c46 : t266 = true
           ·subst c46
            have H1 : (if t265 = 0 then (none) else (if ((t265 == 1) != t254) = true then (none) else (ferrulelaw14_CoordOnce.l0 kj37 l0 t244 true t254 (wrap64 (x9_1 + 1)) a1_0 a1_1 t247))) = some r := by rw [if_pos rfl] at H; exact H
            clear H
            have H := H1
            clear H1
            by_cases c47 : t265 = 0
            ·rw [if_pos c47] at H
             exact absurd H (by simp)
            ·rw [if_neg c47] at H
             have c47b0 : (t265 == 0) = false := beq_eq_false_iff_ne.mpr c47
             have c47b1 : (t265 != 0) = true := bne_iff_ne.mpr c47
             by_cases c48 : ((t265 == 1) != t254) = true
             ·rw [if_pos c48] at H
              exact absurd H (by simp)
             ·rw [if_neg c48] at H
              have c48b0 : ((t265 == 1) != t254) = false := by simpa using c48
              (try (have c48b1 : decide ((t265 == 1) = t254) = true := by simpa using c48))
              (try (have c48b2 : ((t265 == 1) == t254) = true := by simpa using c48))
              clear c48
              have H' := am_ H
              clear H
              have hnb49 := NB256_243.out
              have hnc49 := NB243_256.out
              have hnb50 := NB256_245.out
              have hnc50 := NB245_256.out
              have hnb51 := NB256_255.out
              have hnc51 := NB255_256.out
              have hcz52_0 : wc.cell? ⟨gb256, 0, none⟩ = some (.int .i64 t250) := (blk_cell BK256.out 0).trans rfl
              have hcz52_1 : wc.cell? ⟨gb256, 1, none⟩ = some (.string t251) := (blk_cell BK256.out 1).trans rfl
              have hcz52_2 : wc.cell? ⟨gb256, 2, none⟩ = some (.int .u64 t252) := (blk_cell BK256.out 2).trans rfl
              have hcz52_3 : wc.cell? ⟨gb256, 3, none⟩ = some (.bool t253) := (blk_cell BK256.out 3).trans rfl
              have hcz52_4 : wc.cell? ⟨gb256, 4, none⟩ = some (.bool t254) := (blk_cell BK256.out 4).trans rfl
              have hfz52_0 := blk_frozen BK256.out 0
              have hfz52_1 := blk_frozen BK256.out 1
              have hfz52_2 := blk_frozen BK256.out 2
              have hfz52_3 := blk_frozen BK256.out 3
              have hfz52_4 := blk_frozen BK256.out 4
              have hnb53 := NB255_243.out
              have hnc53 := NB243_255.out
              have hnb54 := NB255_245.out
              have hnc54 := NB245_255.out
              have hcz55_0 : wc.cell? ⟨gb255, 0, none⟩ = some (.slice Ao19 t247.length co19) := (blk_cell BK255.out 0).trans rfl
              have hfz55_0 := blk_frozen BK255.out 0
              have hnb56 := NB243_245.out
              have hnc56 := NB245_243.out
              have hcz57_0 : wc.cell? ⟨gb243, 0, none⟩ = some (.int .u64 a1_0) := (blk_cell BK243.out 0).trans rfl
              have hcz57_1 : wc.cell? ⟨gb243, 1, none⟩ = some (.int .u64 a1_1) := (blk_cell BK243.out 1).trans rfl
              have hfz57_0 := blk_frozen BK243.out 0
              have hfz57_1 := blk_frozen BK243.out 1
              go_wp2_with (first | ((with_reducible refine gate_callee (f := 11) rfl ?_); refine goesL_ (some 71) rfl rfl Try.func11 (by kernel_rfl) rfl #[.agg #[.slice Ao19 t247.length co19], .agg #[.int .u64 a1_0, .int .u64 a1_1]] rfl (by (try simp only [List.map_toArray, List.map_cons, List.map_nil]); first | done | rfl | (simp only [List.length_drop, List.length_take]; rfl)) ?_; (with_reducible refine (ferruleref14_Find.calls kj37 (fun k_ => (k_ ≠ gb243 ∧ (k_ ≠ gb245 ∧ (k_ ≠ gb255 ∧ k_ ≠ gb256)))) _ _ t247 a1_0 a1_1 t260 t261 t262 t265 true _ ?side1 A45.out).mono ?_); (case side1 => exact HO_256000.out); rintro e w58 ⟨v263, rfl, ho0, hb⟩; refine ⟨_, rfl, ?_⟩; have n0_ := am_ (Kd.V_below (vx_ HO_246000) hb); have n1_ := am_ (Kd.V_below (vx_ HO_256000) hb); have n2_ := am_ (Kd.V_lower (Kd.V_mono (ok' := fun k_ => k_ ≠ gb243 ∧ k_ ≠ gb245 ∧ k_ ≠ gb255 ∧ k_ ≠ gb256) ho0 (fun k_ hk_ => ⟨Or.elim hk_ (fun hs_ => hs_.1) (fun hn_ => (Kd.freshB (g := gb243) (o := .cells #[.int .u64 a1_0, .int .u64 a1_1] 34 (0, 0)) (bx_ BK243) k_ hn_)), Or.elim hk_ (fun hs_ => hs_.2.1) (fun hn_ => (Kd.freshB (g := gb245) (o := .cells #[.slice Ao13 x246000_1.length co13] 26 (0, 0)) (bx_ BK245) k_ hn_)), Or.elim hk_ (fun hs_ => hs_.2.2.1) (fun hn_ => (Kd.freshB (g := gb255) (o := .cells #[.slice Ao19 t247.length co19] 26 (0, 0)) (bx_ BK255) k_ hn_)), Or.elim hk_ (fun hs_ => hs_.2.2.2) (fun hn_ => (Kd.freshB (g := gb256) (o := .cells #[.int .i64 t250, .string t251, .int .u64 t252, .bool t253, .bool t254] 30 (0, 0)) (bx_ BK256) k_ hn_))⟩)) (below_size (hx_ HB))); have n3_ := am_ (blk_below (g := gb243) (o := .cells #[.int .u64 a1_0, .int .u64 a1_1] 34 (0, 0)) (bx_ BK243) hb); have n4_ := am_ (blk_below (g := gb245) (o := .cells #[.slice Ao13 x246000_1.length co13] 26 (0, 0)) (bx_ BK245) hb); have n5_ := am_ (blk_below (g := gb255) (o := .cells #[.slice Ao19 t247.length co19] 26 (0, 0)) (bx_ BK255) hb); have n6_ := am_ (blk_below (g := gb256) (o := .cells #[.int .i64 t250, .string t251, .int .u64 t252, .bool t253, .bool t254] 30 (0, 0)) (bx_ BK256) hb); have n7_ := am_ (below_step (hx_ HB) hb); clear HO_246000; clear HO_256000; clear BK243; clear BK245; clear BK255; clear BK256; clear HB; have HO_246000 := n0_; have HO_256000 := n1_; have HO264 := n2_; have BK243 := n3_; have BK245 := n4_; have BK255 := n5_; have BK256 := n6_; have HB := n7_; clear n0_ n1_ n2_ n3_ n4_ n5_ n6_ n7_; (try clear hb); (try clear hb2); (try clear hk); (try clear hi); (try clear ho0)) | ((with_reducible refine gate_dst (N := 12) rfl ?_); refine box_event ?hg (N := 12) ?hd (cs := #[.int .u64 0, .int .u64 0, .slice none 0 0, .int .i64 0]) (t := 42) ?hr ?_; (case hd => rfl); (case hg => rfl); (case hr => first | (go_simp; done) | (go_simp; rfl)); intro gb267 hg w59 hbox hb; have n0_ := am_ (Kd.V_below (Kd.V_elderB (vx_ HO_246000) gb267 (Nat.le_of_eq hg.symm)) hb); have n1_ := am_ (Kd.V_below (Kd.V_elderB (vx_ HO_256000) gb267 (Nat.le_of_eq hg.symm)) hb); have n2_ := am_ (Kd.V_below (Kd.V_elderB (vx_ HO264) gb267 (Nat.le_of_eq hg.symm)) hb); have n3_ := am_ (blk_below (g := gb243) (o := .cells #[.int .u64 a1_0, .int .u64 a1_1] 34 (0, 0)) (bx_ BK243) hb); have n4_ := am_ (blk_below (g := gb245) (o := .cells #[.slice Ao13 x246000_1.length co13] 26 (0, 0)) (bx_ BK245) hb); have n5_ := am_ (blk_below (g := gb255) (o := .cells #[.slice Ao19 t247.length co19] 26 (0, 0)) (bx_ BK255) hb); have n6_ := am_ (blk_below (g := gb256) (o := .cells #[.int .i64 t250, .string t251, .int .u64 t252, .bool t253, .bool t254] 30 (0, 0)) (bx_ BK256) hb); have n7_ := am_ (below_step (hx_ HB) hb); have n8_ := am_ (hbox); have n9_ := am_ ((by rw [hg]; exact (below_size (hx_ HB)) : w.heap.size ≤ gb267)); have n10_ := am_ ((by rw [hg]; exact (below_size (hx_ HB)) : w.heap.size ≤ gb267)); have n11_ := am_ ((by rw [hg]; exact Nat.ne_of_lt (blk_lt (g := gb243) (o := .cells #[.int .u64 a1_0, .int .u64 a1_1] 34 (0, 0)) (bx_ BK243)) : gb243 ≠ gb267)); have n12_ := am_ ((by rw [hg]; exact Nat.ne_of_gt (blk_lt (g := gb243) (o := .cells #[.int .u64 a1_0, .int .u64 a1_1] 34 (0, 0)) (bx_ BK243)) : gb267 ≠ gb243)); have n13_ := am_ ((by rw [hg]; exact Nat.ne_of_lt (blk_lt (g := gb245) (o := .cells #[.slice Ao13 x246000_1.length co13] 26 (0, 0)) (bx_ BK245)) : gb245 ≠ gb267)); have n14_ := am_ ((by rw [hg]; exact Nat.ne_of_gt (blk_lt (g := gb245) (o := .cells #[.slice Ao13 x246000_1.length co13] 26 (0, 0)) (bx_ BK245)) : gb267 ≠ gb245)); have n15_ := am_ ((by rw [hg]; exact Nat.ne_of_lt (blk_lt (g := gb255) (o := .cells #[.slice Ao19 t247.length co19] 26 (0, 0)) (bx_ BK255)) : gb255 ≠ gb267)); have n16_ := am_ ((by rw [hg]; exact Nat.ne_of_gt (blk_lt (g := gb255) (o := .cells #[.slice Ao19 t247.length co19] 26 (0, 0)) (bx_ BK255)) : gb267 ≠ gb255)); have n17_ := am_ ((by rw [hg]; exact Nat.ne_of_lt (blk_lt (g := gb256) (o := .cells #[.int .i64 t250, .string t251, .int .u64 t252, .bool t253, .bool t254] 30 (0, 0)) (bx_ BK256)) : gb256 ≠ gb267)); have n18_ := am_ ((by rw [hg]; exact Nat.ne_of_gt (blk_lt (g := gb256) (o := .cells #[.int .i64 t250, .string t251, .int .u64 t252, .bool t253, .bool t254] 30 (0, 0)) (bx_ BK256)) : gb267 ≠ gb256)); clear HO_246000; clear HO_256000; clear HO264; clear BK243; clear BK245; clear BK255; clear BK256; clear HB; have HO_246000 := n0_; have HO_256000 := n1_; have HO264 := n2_; have BK243 := n3_; have BK245 := n4_; have BK255 := n5_; have BK256 := n6_; have HB := n7_; have BK267 := n8_; have GW267 := n9_; have GE267 := n10_; have NB243_267 := n11_; have NB267_243 := n12_; have NB245_267 := n13_; have NB267_245 := n14_; have NB255_267 := n15_; have NB267_255 := n16_; have NB256_267 := n17_; have NB267_256 := n18_; clear n0_ n1_ n2_ n3_ n4_ n5_ n6_ n7_ n8_ n9_ n10_ n11_ n12_ n13_ n14_ n15_ n16_ n17_ n18_; clear hb hbox hg; have hnb60 := NB267_243.out; have hnc60 := NB243_267.out; have hnb61 := NB267_245.out; have hnc61 := NB245_267.out; have hnb62 := NB267_255.out; have hnc62 := NB255_267.out; have hnb63 := NB267_256.out; have hnc63 := NB256_267.out; have hcz64_0 : w59.cell? ⟨gb267, 0, none⟩ = some (.int .u64 0) := (blk_cell BK267.out 0).trans rfl; have hcz64_1 : w59.cell? ⟨gb267, 1, none⟩ = some (.int .u64 0) := (blk_cell BK267.out 1).trans rfl; have hcz64_2 : w59.cell? ⟨gb267, 2, none⟩ = some (.slice none 0 0) := (blk_cell BK267.out 2).trans rfl; have hcz64_3 : w59.cell? ⟨gb267, 3, none⟩ = some (.int .i64 0) := (blk_cell BK267.out 3).trans rfl; have hfz64_0 := blk_frozen BK267.out 0; have hfz64_1 := blk_frozen BK267.out 1; have hfz64_2 := blk_frozen BK267.out 2; have hfz64_3 := blk_frozen BK267.out 3; obtain ⟨Ao65, co65, eo65⟩ := Kd.V_slice HO264.out; subst eo65; have hcz66_0 : w59.cell? ⟨gb255, 0, none⟩ = some (.slice Ao19 t247.length co19) := (blk_cell BK255.out 0).trans rfl; have hfz66_0 := blk_frozen BK255.out 0; have hcz67_0 : w59.cell? ⟨gb245, 0, none⟩ = some (.slice Ao13 x246000_1.length co13) := (blk_cell BK245.out 0).trans rfl; have hfz67_0 := blk_frozen BK245.out 0))
              go_roundg kj37
              case measure => have := HK1.out; have := HJ11.out; have := HJ37.out; omega
              case rel => exact ⟨(true), (t254), (wrap64 (x9_1 + 1)), (t247), (.slice Ao19 t247.length co19), (by first | rfl | (simp; done) | (simp [*]; done)), (by first | rfl | (simp; done) | (simp [*]; done)), (by first | rfl | (simp; done) | (simp [*]; done)), H', ⟨by have := HK1.out; have := HJ11.out; have := HJ37.out; omega⟩, ⟨by (with_reducible repeat (first | apply Kd.V_alloc | apply Kd.V_drewN | apply Kd.V_drew)); exact Kd.V_mono (Kd.V_far (p := ⟨gb245, 0, none⟩) (Kd.V_far (p := ⟨gb267, 3, none⟩) (Kd.V_far (p := ⟨gb267, 2, none⟩) (Kd.V_far (p := ⟨gb267, 1, none⟩) (Kd.V_far (p := ⟨gb267, 0, none⟩) (Kd.V_mono (Kd.V_mono HO_256000.out (fun k_ hk => (⟨hk, hk.2⟩ : _ ∧ k_ ≠ gb267))) (fun k_ hk => (⟨hk, hk.1.1.2.1⟩ : _ ∧ k_ ≠ gb245))) (fun _ hk => hk.1.2) (.int .u64 t260)) (fun _ hk => hk.1.2) (.int .u64 t261)) (fun _ hk => hk.1.2) (.slice Ao65 t262.length co65)) (fun _ hk => hk.1.2) (.int .i64 t265)) (fun _ hk => hk.2) (.slice Ao19 t247.length co19)) (fun _ hk => ⟨hk.1.1.1.1, hk.1.1.1.2.1⟩)⟩, ⟨by (with_reducible repeat (first | refine blk_drewN ?_ _ | refine blk_drew ?_ | refine blk_alloc ?_ _)); refine blk_far ?_ NB243_245.out _; (with_reducible repeat (first | refine blk_drewN ?_ _ | refine blk_drew ?_ | refine blk_alloc ?_ _)); refine blk_far ?_ NB243_267.out _; (with_reducible repeat (first | refine blk_drewN ?_ _ | refine blk_drew ?_ | refine blk_alloc ?_ _)); refine blk_far ?_ NB243_267.out _; (with_reducible repeat (first | refine blk_drewN ?_ _ | refine blk_drew ?_ | refine blk_alloc ?_ _)); refine blk_far ?_ NB243_267.out _; (with_reducible repeat (first | refine blk_drewN ?_ _ | refine blk_drew ?_ | refine blk_alloc ?_ _)); refine blk_far ?_ NB243_267.out _; (with_reducible repeat (first | refine blk_drewN ?_ _ | refine blk_drew ?_ | refine blk_alloc ?_ _)); exact BK243.out⟩, ⟨by (with_reducible repeat (first | refine blk_drewN ?_ _ | refine blk_drew ?_ | refine blk_alloc ?_ _)); refine blk_put (cs := #[.slice Ao13 x246000_1.length co13]) ?_ 0 _ rfl; (with_reducible repeat (first | refine blk_drewN ?_ _ | refine blk_drew ?_ | refine blk_alloc ?_ _)); refine blk_far ?_ NB245_267.out _; (with_reducible repeat (first | refine blk_drewN ?_ _ | refine blk_drew ?_ | refine blk_alloc ?_ _)); refine blk_far ?_ NB245_267.out _; (with_reducible repeat (first | refine blk_drewN ?_ _ | refine blk_drew ?_ | refine blk_alloc ?_ _)); refine blk_far ?_ NB245_267.out _; (with_reducible repeat (first | refine blk_drewN ?_ _ | refine blk_drew ?_ | refine blk_alloc ?_ _)); refine blk_far ?_ NB245_267.out _; (with_reducible repeat (first | refine blk_drewN ?_ _ | refine blk_drew ?_ | refine blk_alloc ?_ _)); exact BK245.out⟩, ⟨hx_ HB⟩⟩
           ·replace c46 := Bool.eq_false_iff.mpr c46
            subst c46
            have H1 : (none) = some r := by rw [if_neg (show ¬ (false = true) by decide)] at H; exact H
            clear H
            have H := H1
            clear H1
            exact absurd H (by simp)
       ·replace c37 := Bool.eq_false_iff.mpr c37
        subst c37
        have H1 : ((ferruleref14_Find.f kj11 t247 a1_0 a1_1).bind fun bt268 => (if x7_1 = true then (if bt268.2.2.2.2 = true then (if bt268.2.2.2.1 = 0 then (none) else (if ((bt268.2.2.2.1 == 1) != x8_1) = true then (none) else (ferrulelaw14_CoordOnce.l0 kj11 l0 t244 x7_1 x8_1 (wrap64 (x9_1 + 1)) a1_0 a1_1 t247))) else (none)) else (ferrulelaw14_CoordOnce.l0 kj11 l0 t244 x7_1 x8_1 (wrap64 (x9_1 + 1)) a1_0 a1_1 t247))) = some r := by rw [if_neg (show ¬ (false = true) by decide)] at H; exact H
        clear H
        have H := H1
        clear H1
        replace H := Option.bind_eq_some_iff.mp H
        obtain ⟨⟨t268, t269, t270, t273, t274⟩, A680, H⟩ := H
        replace H : (if x7_1 = true then (if t274 = true then (if t273 = 0 then (none) else (if ((t273 == 1) != x8_1) = true then (none) else (ferrulelaw14_CoordOnce.l0 kj11 l0 t244 x7_1 x8_1 (wrap64 (x9_1 + 1)) a1_0 a1_1 t247))) else (none)) else (ferrulelaw14_CoordOnce.l0 kj11 l0 t244 x7_1 x8_1 (wrap64 (x9_1 + 1)) a1_0 a1_1 t247)) = some r := H
        have A68 := am_ A680
        clear A680
        by_cases c69 : x7_1 = true
        ·subst c69
         have H1 : (if t274 = true then (if t273 = 0 then (none) else (if ((t273 == 1) != x8_1) = true then (none) else (ferrulelaw14_CoordOnce.l0 kj11 l0 t244 true x8_1 (wrap64 (x9_1 + 1)) a1_0 a1_1 t247))) else (none)) = some r := by rw [if_pos rfl] at H; exact H
         clear H
         have H := H1
         clear H1
         by_cases c70 : t274 = true
         ·subst c70
          have H1 : (if t273 = 0 then (none) else (if ((t273 == 1) != x8_1) = true then (none) else (ferrulelaw14_CoordOnce.l0 kj11 l0 t244 true x8_1 (wrap64 (x9_1 + 1)) a1_0 a1_1 t247))) = some r := by rw [if_pos rfl] at H; exact H
          clear H
          have H := H1
          clear H1
          by_cases c71 : t273 = 0
          ·rw [if_pos c71] at H
           exact absurd H (by simp)
          ·rw [if_neg c71] at H
           have c71b0 : (t273 == 0) = false := beq_eq_false_iff_ne.mpr c71
           have c71b1 : (t273 != 0) = true := bne_iff_ne.mpr c71
           by_cases c72 : ((t273 == 1) != x8_1) = true
           ·rw [if_pos c72] at H
            exact absurd H (by simp)
           ·rw [if_neg c72] at H
            have c72b0 : ((t273 == 1) != x8_1) = false := by simpa using c72
            (try (have c72b1 : decide ((t273 == 1) = x8_1) = true := by simpa using c72))
            (try (have c72b2 : ((t273 == 1) == x8_1) = true := by simpa using c72))
            clear c72
            have H' := am_ H
            clear H
            have hnb73 := NB255_243.out
            have hnc73 := NB243_255.out
            have hnb74 := NB255_245.out
            have hnc74 := NB245_255.out
            have hnb75 := NB255_256.out
            have hnc75 := NB256_255.out
            have hcz76_0 : wc.cell? ⟨gb255, 0, none⟩ = some (.slice Ao19 t247.length co19) := (blk_cell BK255.out 0).trans rfl
            have hfz76_0 := blk_frozen BK255.out 0
            have hnb77 := NB243_245.out
            have hnc77 := NB245_243.out
            have hnb78 := NB243_256.out
            have hnc78 := NB256_243.out
            have hcz79_0 : wc.cell? ⟨gb243, 0, none⟩ = some (.int .u64 a1_0) := (blk_cell BK243.out 0).trans rfl
            have hcz79_1 : wc.cell? ⟨gb243, 1, none⟩ = some (.int .u64 a1_1) := (blk_cell BK243.out 1).trans rfl
            have hfz79_0 := blk_frozen BK243.out 0
            have hfz79_1 := blk_frozen BK243.out 1
            go_wp2_with (first | ((with_reducible refine gate_callee (f := 11) rfl ?_); refine goesL_ (some 71) rfl rfl Try.func11 (by kernel_rfl) rfl #[.agg #[.slice Ao19 t247.length co19], .agg #[.int .u64 a1_0, .int .u64 a1_1]] rfl (by (try simp only [List.map_toArray, List.map_cons, List.map_nil]); first | done | rfl | (simp only [List.length_drop, List.length_take]; rfl)) ?_; (with_reducible refine (ferruleref14_Find.calls kj11 (fun k_ => (k_ ≠ gb243 ∧ (k_ ≠ gb245 ∧ (k_ ≠ gb255 ∧ k_ ≠ gb256)))) _ _ t247 a1_0 a1_1 t268 t269 t270 t273 true _ ?side1 A68.out).mono ?_); (case side1 => exact HO_256000.out); rintro e w80 ⟨v271, rfl, ho0, hb⟩; refine ⟨_, rfl, ?_⟩; have n0_ := am_ (Kd.V_below (vx_ HO_246000) hb); have n1_ := am_ (Kd.V_below (vx_ HO_256000) hb); have n2_ := am_ (Kd.V_lower (Kd.V_mono (ok' := fun k_ => k_ ≠ gb243 ∧ k_ ≠ gb245 ∧ k_ ≠ gb255 ∧ k_ ≠ gb256) ho0 (fun k_ hk_ => ⟨Or.elim hk_ (fun hs_ => hs_.1) (fun hn_ => (Kd.freshB (g := gb243) (o := .cells #[.int .u64 a1_0, .int .u64 a1_1] 34 (0, 0)) (bx_ BK243) k_ hn_)), Or.elim hk_ (fun hs_ => hs_.2.1) (fun hn_ => (Kd.freshB (g := gb245) (o := .cells #[.slice Ao13 x246000_1.length co13] 26 (0, 0)) (bx_ BK245) k_ hn_)), Or.elim hk_ (fun hs_ => hs_.2.2.1) (fun hn_ => (Kd.freshB (g := gb255) (o := .cells #[.slice Ao19 t247.length co19] 26 (0, 0)) (bx_ BK255) k_ hn_)), Or.elim hk_ (fun hs_ => hs_.2.2.2) (fun hn_ => (Kd.freshB (g := gb256) (o := .cells #[.int .i64 t250, .string t251, .int .u64 t252, .bool t253, .bool t254] 30 (0, 0)) (bx_ BK256) k_ hn_))⟩)) (below_size (hx_ HB))); have n3_ := am_ (blk_below (g := gb243) (o := .cells #[.int .u64 a1_0, .int .u64 a1_1] 34 (0, 0)) (bx_ BK243) hb); have n4_ := am_ (blk_below (g := gb245) (o := .cells #[.slice Ao13 x246000_1.length co13] 26 (0, 0)) (bx_ BK245) hb); have n5_ := am_ (blk_below (g := gb255) (o := .cells #[.slice Ao19 t247.length co19] 26 (0, 0)) (bx_ BK255) hb); have n6_ := am_ (blk_below (g := gb256) (o := .cells #[.int .i64 t250, .string t251, .int .u64 t252, .bool t253, .bool t254] 30 (0, 0)) (bx_ BK256) hb); have n7_ := am_ (below_step (hx_ HB) hb); clear HO_246000; clear HO_256000; clear BK243; clear BK245; clear BK255; clear BK256; clear HB; have HO_246000 := n0_; have HO_256000 := n1_; have HO272 := n2_; have BK243 := n3_; have BK245 := n4_; have BK255 := n5_; have BK256 := n6_; have HB := n7_; clear n0_ n1_ n2_ n3_ n4_ n5_ n6_ n7_; (try clear hb); (try clear hb2); (try clear hk); (try clear hi); (try clear ho0)) | ((with_reducible refine gate_dst (N := 12) rfl ?_); refine box_event ?hg (N := 12) ?hd (cs := #[.int .u64 0, .int .u64 0, .slice none 0 0, .int .i64 0]) (t := 42) ?hr ?_; (case hd => rfl); (case hg => rfl); (case hr => first | (go_simp; done) | (go_simp; rfl)); intro gb275 hg w81 hbox hb; have n0_ := am_ (Kd.V_below (Kd.V_elderB (vx_ HO_246000) gb275 (Nat.le_of_eq hg.symm)) hb); have n1_ := am_ (Kd.V_below (Kd.V_elderB (vx_ HO_256000) gb275 (Nat.le_of_eq hg.symm)) hb); have n2_ := am_ (Kd.V_below (Kd.V_elderB (vx_ HO272) gb275 (Nat.le_of_eq hg.symm)) hb); have n3_ := am_ (blk_below (g := gb243) (o := .cells #[.int .u64 a1_0, .int .u64 a1_1] 34 (0, 0)) (bx_ BK243) hb); have n4_ := am_ (blk_below (g := gb245) (o := .cells #[.slice Ao13 x246000_1.length co13] 26 (0, 0)) (bx_ BK245) hb); have n5_ := am_ (blk_below (g := gb255) (o := .cells #[.slice Ao19 t247.length co19] 26 (0, 0)) (bx_ BK255) hb); have n6_ := am_ (blk_below (g := gb256) (o := .cells #[.int .i64 t250, .string t251, .int .u64 t252, .bool t253, .bool t254] 30 (0, 0)) (bx_ BK256) hb); have n7_ := am_ (below_step (hx_ HB) hb); have n8_ := am_ (hbox); have n9_ := am_ ((by rw [hg]; exact (below_size (hx_ HB)) : w.heap.size ≤ gb275)); have n10_ := am_ ((by rw [hg]; exact (below_size (hx_ HB)) : w.heap.size ≤ gb275)); have n11_ := am_ ((by rw [hg]; exact Nat.ne_of_lt (blk_lt (g := gb243) (o := .cells #[.int .u64 a1_0, .int .u64 a1_1] 34 (0, 0)) (bx_ BK243)) : gb243 ≠ gb275)); have n12_ := am_ ((by rw [hg]; exact Nat.ne_of_gt (blk_lt (g := gb243) (o := .cells #[.int .u64 a1_0, .int .u64 a1_1] 34 (0, 0)) (bx_ BK243)) : gb275 ≠ gb243)); have n13_ := am_ ((by rw [hg]; exact Nat.ne_of_lt (blk_lt (g := gb245) (o := .cells #[.slice Ao13 x246000_1.length co13] 26 (0, 0)) (bx_ BK245)) : gb245 ≠ gb275)); have n14_ := am_ ((by rw [hg]; exact Nat.ne_of_gt (blk_lt (g := gb245) (o := .cells #[.slice Ao13 x246000_1.length co13] 26 (0, 0)) (bx_ BK245)) : gb275 ≠ gb245)); have n15_ := am_ ((by rw [hg]; exact Nat.ne_of_lt (blk_lt (g := gb255) (o := .cells #[.slice Ao19 t247.length co19] 26 (0, 0)) (bx_ BK255)) : gb255 ≠ gb275)); have n16_ := am_ ((by rw [hg]; exact Nat.ne_of_gt (blk_lt (g := gb255) (o := .cells #[.slice Ao19 t247.length co19] 26 (0, 0)) (bx_ BK255)) : gb275 ≠ gb255)); have n17_ := am_ ((by rw [hg]; exact Nat.ne_of_lt (blk_lt (g := gb256) (o := .cells #[.int .i64 t250, .string t251, .int .u64 t252, .bool t253, .bool t254] 30 (0, 0)) (bx_ BK256)) : gb256 ≠ gb275)); have n18_ := am_ ((by rw [hg]; exact Nat.ne_of_gt (blk_lt (g := gb256) (o := .cells #[.int .i64 t250, .string t251, .int .u64 t252, .bool t253, .bool t254] 30 (0, 0)) (bx_ BK256)) : gb275 ≠ gb256)); clear HO_246000; clear HO_256000; clear HO272; clear BK243; clear BK245; clear BK255; clear BK256; clear HB; have HO_246000 := n0_; have HO_256000 := n1_; have HO272 := n2_; have BK243 := n3_; have BK245 := n4_; have BK255 := n5_; have BK256 := n6_; have HB := n7_; have BK275 := n8_; have GW275 := n9_; have GE275 := n10_; have NB243_275 := n11_; have NB275_243 := n12_; have NB245_275 := n13_; have NB275_245 := n14_; have NB255_275 := n15_; have NB275_255 := n16_; have NB256_275 := n17_; have NB275_256 := n18_; clear n0_ n1_ n2_ n3_ n4_ n5_ n6_ n7_ n8_ n9_ n10_ n11_ n12_ n13_ n14_ n15_ n16_ n17_ n18_; clear hb hbox hg; have hnb82 := NB275_243.out; have hnc82 := NB243_275.out; have hnb83 := NB275_245.out; have hnc83 := NB245_275.out; have hnb84 := NB275_255.out; have hnc84 := NB255_275.out; have hnb85 := NB275_256.out; have hnc85 := NB256_275.out; have hcz86_0 : w81.cell? ⟨gb275, 0, none⟩ = some (.int .u64 0) := (blk_cell BK275.out 0).trans rfl; have hcz86_1 : w81.cell? ⟨gb275, 1, none⟩ = some (.int .u64 0) := (blk_cell BK275.out 1).trans rfl; have hcz86_2 : w81.cell? ⟨gb275, 2, none⟩ = some (.slice none 0 0) := (blk_cell BK275.out 2).trans rfl; have hcz86_3 : w81.cell? ⟨gb275, 3, none⟩ = some (.int .i64 0) := (blk_cell BK275.out 3).trans rfl; have hfz86_0 := blk_frozen BK275.out 0; have hfz86_1 := blk_frozen BK275.out 1; have hfz86_2 := blk_frozen BK275.out 2; have hfz86_3 := blk_frozen BK275.out 3; obtain ⟨Ao87, co87, eo87⟩ := Kd.V_slice HO272.out; subst eo87; have hcz88_0 : w81.cell? ⟨gb255, 0, none⟩ = some (.slice Ao19 t247.length co19) := (blk_cell BK255.out 0).trans rfl; have hfz88_0 := blk_frozen BK255.out 0; have hnb89 := NB245_256.out; have hnc89 := NB256_245.out; have hcz90_0 : w81.cell? ⟨gb245, 0, none⟩ = some (.slice Ao13 x246000_1.length co13) := (blk_cell BK245.out 0).trans rfl; have hfz90_0 := blk_frozen BK245.out 0))
            go_roundg kj11
            case measure => have := HK1.out; have := HJ11.out; omega
            case rel => exact ⟨(true), (x8_1), (wrap64 (x9_1 + 1)), (t247), (.slice Ao19 t247.length co19), (by first | rfl | (simp; done) | (simp [*]; done)), (by first | rfl | (simp; done) | (simp [*]; done)), (by first | rfl | (simp; done) | (simp [*]; done)), H', ⟨by have := HK1.out; have := HJ11.out; omega⟩, ⟨by (with_reducible repeat (first | apply Kd.V_alloc | apply Kd.V_drewN | apply Kd.V_drew)); exact Kd.V_mono (Kd.V_far (p := ⟨gb245, 0, none⟩) (Kd.V_far (p := ⟨gb275, 3, none⟩) (Kd.V_far (p := ⟨gb275, 2, none⟩) (Kd.V_far (p := ⟨gb275, 1, none⟩) (Kd.V_far (p := ⟨gb275, 0, none⟩) (Kd.V_mono (Kd.V_mono HO_256000.out (fun k_ hk => (⟨hk, hk.2⟩ : _ ∧ k_ ≠ gb275))) (fun k_ hk => (⟨hk, hk.1.1.2.1⟩ : _ ∧ k_ ≠ gb245))) (fun _ hk => hk.1.2) (.int .u64 t268)) (fun _ hk => hk.1.2) (.int .u64 t269)) (fun _ hk => hk.1.2) (.slice Ao87 t270.length co87)) (fun _ hk => hk.1.2) (.int .i64 t273)) (fun _ hk => hk.2) (.slice Ao19 t247.length co19)) (fun _ hk => ⟨hk.1.1.1.1, hk.1.1.1.2.1⟩)⟩, ⟨by (with_reducible repeat (first | refine blk_drewN ?_ _ | refine blk_drew ?_ | refine blk_alloc ?_ _)); refine blk_far ?_ NB243_245.out _; (with_reducible repeat (first | refine blk_drewN ?_ _ | refine blk_drew ?_ | refine blk_alloc ?_ _)); refine blk_far ?_ NB243_275.out _; (with_reducible repeat (first | refine blk_drewN ?_ _ | refine blk_drew ?_ | refine blk_alloc ?_ _)); refine blk_far ?_ NB243_275.out _; (with_reducible repeat (first | refine blk_drewN ?_ _ | refine blk_drew ?_ | refine blk_alloc ?_ _)); refine blk_far ?_ NB243_275.out _; (with_reducible repeat (first | refine blk_drewN ?_ _ | refine blk_drew ?_ | refine blk_alloc ?_ _)); refine blk_far ?_ NB243_275.out _; (with_reducible repeat (first | refine blk_drewN ?_ _ | refine blk_drew ?_ | refine blk_alloc ?_ _)); exact BK243.out⟩, ⟨by (with_reducible repeat (first | refine blk_drewN ?_ _ | refine blk_drew ?_ | refine blk_alloc ?_ _)); refine blk_put (cs := #[.slice Ao13 x246000_1.length co13]) ?_ 0 _ rfl; (with_reducible repeat (first | refine blk_drewN ?_ _ | refine blk_drew ?_ | refine blk_alloc ?_ _)); refine blk_far ?_ NB245_275.out _; (with_reducible repeat (first | refine blk_drewN ?_ _ | refine blk_drew ?_ | refine blk_alloc ?_ _)); refine blk_far ?_ NB245_275.out _; (with_reducible repeat (first | refine blk_drewN ?_ _ | refine blk_drew ?_ | refine blk_alloc ?_ _)); refine blk_far ?_ NB245_275.out _; (with_reducible repeat (first | refine blk_drewN ?_ _ | refine blk_drew ?_ | refine blk_alloc ?_ _)); refine blk_far ?_ NB245_275.out _; (with_reducible repeat (first | refine blk_drewN ?_ _ | refine blk_drew ?_ | refine blk_alloc ?_ _)); exact BK245.out⟩, ⟨hx_ HB⟩⟩
         ·replace c70 := Bool.eq_false_iff.mpr c70
          subst c70
          have H1 : (none) = some r := by rw [if_neg (show ¬ (false = true) by decide)] at H; exact H
          clear H
          have H := H1
          clear H1
          exact absurd H (by simp)
        ·replace c69 := Bool.eq_false_iff.mpr c69
         subst c69
         have H1 : (ferrulelaw14_CoordOnce.l0 kj11 l0 t244 false x8_1 (wrap64 (x9_1 + 1)) a1_0 a1_1 t247) = some r := by rw [if_neg (show ¬ (false = true) by decide)] at H; exact H
         clear H
         have H := H1
         clear H1
         have H' := am_ H
         clear H
         have hnb91 := NB255_243.out
         have hnc91 := NB243_255.out
         have hnb92 := NB255_245.out
         have hnc92 := NB245_255.out
         have hnb93 := NB255_256.out
         have hnc93 := NB256_255.out
         have hcz94_0 : wc.cell? ⟨gb255, 0, none⟩ = some (.slice Ao19 t247.length co19) := (blk_cell BK255.out 0).trans rfl
         have hfz94_0 := blk_frozen BK255.out 0
         have hnb95 := NB243_245.out
         have hnc95 := NB245_243.out
         have hnb96 := NB243_256.out
         have hnc96 := NB256_243.out
         have hcz97_0 : wc.cell? ⟨gb243, 0, none⟩ = some (.int .u64 a1_0) := (blk_cell BK243.out 0).trans rfl
         have hcz97_1 : wc.cell? ⟨gb243, 1, none⟩ = some (.int .u64 a1_1) := (blk_cell BK243.out 1).trans rfl
         have hfz97_0 := blk_frozen BK243.out 0
         have hfz97_1 := blk_frozen BK243.out 1
         go_wp2_with (first | ((with_reducible refine gate_callee (f := 11) rfl ?_); refine goesL_ (some 71) rfl rfl Try.func11 (by kernel_rfl) rfl #[.agg #[.slice Ao19 t247.length co19], .agg #[.int .u64 a1_0, .int .u64 a1_1]] rfl (by (try simp only [List.map_toArray, List.map_cons, List.map_nil]); first | done | rfl | (simp only [List.length_drop, List.length_take]; rfl)) ?_; (with_reducible refine (ferruleref14_Find.calls kj11 (fun k_ => (k_ ≠ gb243 ∧ (k_ ≠ gb245 ∧ (k_ ≠ gb255 ∧ k_ ≠ gb256)))) _ _ t247 a1_0 a1_1 t268 t269 t270 t273 t274 _ ?side1 A68.out).mono ?_); (case side1 => exact HO_256000.out); rintro e w98 ⟨v271, rfl, ho0, hb⟩; refine ⟨_, rfl, ?_⟩; have n0_ := am_ (Kd.V_below (vx_ HO_246000) hb); have n1_ := am_ (Kd.V_below (vx_ HO_256000) hb); have n2_ := am_ (Kd.V_lower (Kd.V_mono (ok' := fun k_ => k_ ≠ gb243 ∧ k_ ≠ gb245 ∧ k_ ≠ gb255 ∧ k_ ≠ gb256) ho0 (fun k_ hk_ => ⟨Or.elim hk_ (fun hs_ => hs_.1) (fun hn_ => (Kd.freshB (g := gb243) (o := .cells #[.int .u64 a1_0, .int .u64 a1_1] 34 (0, 0)) (bx_ BK243) k_ hn_)), Or.elim hk_ (fun hs_ => hs_.2.1) (fun hn_ => (Kd.freshB (g := gb245) (o := .cells #[.slice Ao13 x246000_1.length co13] 26 (0, 0)) (bx_ BK245) k_ hn_)), Or.elim hk_ (fun hs_ => hs_.2.2.1) (fun hn_ => (Kd.freshB (g := gb255) (o := .cells #[.slice Ao19 t247.length co19] 26 (0, 0)) (bx_ BK255) k_ hn_)), Or.elim hk_ (fun hs_ => hs_.2.2.2) (fun hn_ => (Kd.freshB (g := gb256) (o := .cells #[.int .i64 t250, .string t251, .int .u64 t252, .bool t253, .bool t254] 30 (0, 0)) (bx_ BK256) k_ hn_))⟩)) (below_size (hx_ HB))); have n3_ := am_ (blk_below (g := gb243) (o := .cells #[.int .u64 a1_0, .int .u64 a1_1] 34 (0, 0)) (bx_ BK243) hb); have n4_ := am_ (blk_below (g := gb245) (o := .cells #[.slice Ao13 x246000_1.length co13] 26 (0, 0)) (bx_ BK245) hb); have n5_ := am_ (blk_below (g := gb255) (o := .cells #[.slice Ao19 t247.length co19] 26 (0, 0)) (bx_ BK255) hb); have n6_ := am_ (blk_below (g := gb256) (o := .cells #[.int .i64 t250, .string t251, .int .u64 t252, .bool t253, .bool t254] 30 (0, 0)) (bx_ BK256) hb); have n7_ := am_ (below_step (hx_ HB) hb); clear HO_246000; clear HO_256000; clear BK243; clear BK245; clear BK255; clear BK256; clear HB; have HO_246000 := n0_; have HO_256000 := n1_; have HO272 := n2_; have BK243 := n3_; have BK245 := n4_; have BK255 := n5_; have BK256 := n6_; have HB := n7_; clear n0_ n1_ n2_ n3_ n4_ n5_ n6_ n7_; (try clear hb); (try clear hb2); (try clear hk); (try clear hi); (try clear ho0)) | ((with_reducible refine gate_dst (N := 12) rfl ?_); refine box_event ?hg (N := 12) ?hd (cs := #[.int .u64 0, .int .u64 0, .slice none 0 0, .int .i64 0]) (t := 42) ?hr ?_; (case hd => rfl); (case hg => rfl); (case hr => first | (go_simp; done) | (go_simp; rfl)); intro gb275 hg w99 hbox hb; have n0_ := am_ (Kd.V_below (Kd.V_elderB (vx_ HO_246000) gb275 (Nat.le_of_eq hg.symm)) hb); have n1_ := am_ (Kd.V_below (Kd.V_elderB (vx_ HO_256000) gb275 (Nat.le_of_eq hg.symm)) hb); have n2_ := am_ (Kd.V_below (Kd.V_elderB (vx_ HO272) gb275 (Nat.le_of_eq hg.symm)) hb); have n3_ := am_ (blk_below (g := gb243) (o := .cells #[.int .u64 a1_0, .int .u64 a1_1] 34 (0, 0)) (bx_ BK243) hb); have n4_ := am_ (blk_below (g := gb245) (o := .cells #[.slice Ao13 x246000_1.length co13] 26 (0, 0)) (bx_ BK245) hb); have n5_ := am_ (blk_below (g := gb255) (o := .cells #[.slice Ao19 t247.length co19] 26 (0, 0)) (bx_ BK255) hb); have n6_ := am_ (blk_below (g := gb256) (o := .cells #[.int .i64 t250, .string t251, .int .u64 t252, .bool t253, .bool t254] 30 (0, 0)) (bx_ BK256) hb); have n7_ := am_ (below_step (hx_ HB) hb); have n8_ := am_ (hbox); have n9_ := am_ ((by rw [hg]; exact (below_size (hx_ HB)) : w.heap.size ≤ gb275)); have n10_ := am_ ((by rw [hg]; exact (below_size (hx_ HB)) : w.heap.size ≤ gb275)); have n11_ := am_ ((by rw [hg]; exact Nat.ne_of_lt (blk_lt (g := gb243) (o := .cells #[.int .u64 a1_0, .int .u64 a1_1] 34 (0, 0)) (bx_ BK243)) : gb243 ≠ gb275)); have n12_ := am_ ((by rw [hg]; exact Nat.ne_of_gt (blk_lt (g := gb243) (o := .cells #[.int .u64 a1_0, .int .u64 a1_1] 34 (0, 0)) (bx_ BK243)) : gb275 ≠ gb243)); have n13_ := am_ ((by rw [hg]; exact Nat.ne_of_lt (blk_lt (g := gb245) (o := .cells #[.slice Ao13 x246000_1.length co13] 26 (0, 0)) (bx_ BK245)) : gb245 ≠ gb275)); have n14_ := am_ ((by rw [hg]; exact Nat.ne_of_gt (blk_lt (g := gb245) (o := .cells #[.slice Ao13 x246000_1.length co13] 26 (0, 0)) (bx_ BK245)) : gb275 ≠ gb245)); have n15_ := am_ ((by rw [hg]; exact Nat.ne_of_lt (blk_lt (g := gb255) (o := .cells #[.slice Ao19 t247.length co19] 26 (0, 0)) (bx_ BK255)) : gb255 ≠ gb275)); have n16_ := am_ ((by rw [hg]; exact Nat.ne_of_gt (blk_lt (g := gb255) (o := .cells #[.slice Ao19 t247.length co19] 26 (0, 0)) (bx_ BK255)) : gb275 ≠ gb255)); have n17_ := am_ ((by rw [hg]; exact Nat.ne_of_lt (blk_lt (g := gb256) (o := .cells #[.int .i64 t250, .string t251, .int .u64 t252, .bool t253, .bool t254] 30 (0, 0)) (bx_ BK256)) : gb256 ≠ gb275)); have n18_ := am_ ((by rw [hg]; exact Nat.ne_of_gt (blk_lt (g := gb256) (o := .cells #[.int .i64 t250, .string t251, .int .u64 t252, .bool t253, .bool t254] 30 (0, 0)) (bx_ BK256)) : gb275 ≠ gb256)); clear HO_246000; clear HO_256000; clear HO272; clear BK243; clear BK245; clear BK255; clear BK256; clear HB; have HO_246000 := n0_; have HO_256000 := n1_; have HO272 := n2_; have BK243 := n3_; have BK245 := n4_; have BK255 := n5_; have BK256 := n6_; have HB := n7_; have BK275 := n8_; have GW275 := n9_; have GE275 := n10_; have NB243_275 := n11_; have NB275_243 := n12_; have NB245_275 := n13_; have NB275_245 := n14_; have NB255_275 := n15_; have NB275_255 := n16_; have NB256_275 := n17_; have NB275_256 := n18_; clear n0_ n1_ n2_ n3_ n4_ n5_ n6_ n7_ n8_ n9_ n10_ n11_ n12_ n13_ n14_ n15_ n16_ n17_ n18_; clear hb hbox hg; have hnb100 := NB275_243.out; have hnc100 := NB243_275.out; have hnb101 := NB275_245.out; have hnc101 := NB245_275.out; have hnb102 := NB275_255.out; have hnc102 := NB255_275.out; have hnb103 := NB275_256.out; have hnc103 := NB256_275.out; have hcz104_0 : w99.cell? ⟨gb275, 0, none⟩ = some (.int .u64 0) := (blk_cell BK275.out 0).trans rfl; have hcz104_1 : w99.cell? ⟨gb275, 1, none⟩ = some (.int .u64 0) := (blk_cell BK275.out 1).trans rfl; have hcz104_2 : w99.cell? ⟨gb275, 2, none⟩ = some (.slice none 0 0) := (blk_cell BK275.out 2).trans rfl; have hcz104_3 : w99.cell? ⟨gb275, 3, none⟩ = some (.int .i64 0) := (blk_cell BK275.out 3).trans rfl; have hfz104_0 := blk_frozen BK275.out 0; have hfz104_1 := blk_frozen BK275.out 1; have hfz104_2 := blk_frozen BK275.out 2; have hfz104_3 := blk_frozen BK275.out 3; obtain ⟨Ao105, co105, eo105⟩ := Kd.V_slice HO272.out; subst eo105; have hcz106_0 : w99.cell? ⟨gb255, 0, none⟩ = some (.slice Ao19 t247.length co19) := (blk_cell BK255.out 0).trans rfl; have hfz106_0 := blk_frozen BK255.out 0; have hnb107 := NB245_256.out; have hnc107 := NB256_245.out; have hcz108_0 : w99.cell? ⟨gb245, 0, none⟩ = some (.slice Ao13 x246000_1.length co13) := (blk_cell BK245.out 0).trans rfl; have hfz108_0 := blk_frozen BK245.out 0))
         go_roundg kj11
         case measure => have := HK1.out; have := HJ11.out; omega
         case rel => exact ⟨(false), (x8_1), (wrap64 (x9_1 + 1)), (t247), (.slice Ao19 t247.length co19), (by first | rfl | (simp; done) | (simp [*]; done)), (by first | rfl | (simp; done) | (simp [*]; done)), (by first | rfl | (simp; done) | (simp [*]; done)), H', ⟨by have := HK1.out; have := HJ11.out; omega⟩, ⟨by (with_reducible repeat (first | apply Kd.V_alloc | apply Kd.V_drewN | apply Kd.V_drew)); exact Kd.V_mono (Kd.V_far (p := ⟨gb245, 0, none⟩) (Kd.V_far (p := ⟨gb275, 3, none⟩) (Kd.V_far (p := ⟨gb275, 2, none⟩) (Kd.V_far (p := ⟨gb275, 1, none⟩) (Kd.V_far (p := ⟨gb275, 0, none⟩) (Kd.V_mono (Kd.V_mono HO_256000.out (fun k_ hk => (⟨hk, hk.2⟩ : _ ∧ k_ ≠ gb275))) (fun k_ hk => (⟨hk, hk.1.1.2.1⟩ : _ ∧ k_ ≠ gb245))) (fun _ hk => hk.1.2) (.int .u64 t268)) (fun _ hk => hk.1.2) (.int .u64 t269)) (fun _ hk => hk.1.2) (.slice Ao105 t270.length co105)) (fun _ hk => hk.1.2) (.int .i64 t273)) (fun _ hk => hk.2) (.slice Ao19 t247.length co19)) (fun _ hk => ⟨hk.1.1.1.1, hk.1.1.1.2.1⟩)⟩, ⟨by (with_reducible repeat (first | refine blk_drewN ?_ _ | refine blk_drew ?_ | refine blk_alloc ?_ _)); refine blk_far ?_ NB243_245.out _; (with_reducible repeat (first | refine blk_drewN ?_ _ | refine blk_drew ?_ | refine blk_alloc ?_ _)); refine blk_far ?_ NB243_275.out _; (with_reducible repeat (first | refine blk_drewN ?_ _ | refine blk_drew ?_ | refine blk_alloc ?_ _)); refine blk_far ?_ NB243_275.out _; (with_reducible repeat (first | refine blk_drewN ?_ _ | refine blk_drew ?_ | refine blk_alloc ?_ _)); refine blk_far ?_ NB243_275.out _; (with_reducible repeat (first | refine blk_drewN ?_ _ | refine blk_drew ?_ | refine blk_alloc ?_ _)); refine blk_far ?_ NB243_275.out _; (with_reducible repeat (first | refine blk_drewN ?_ _ | refine blk_drew ?_ | refine blk_alloc ?_ _)); exact BK243.out⟩, ⟨by (with_reducible repeat (first | refine blk_drewN ?_ _ | refine blk_drew ?_ | refine blk_alloc ?_ _)); refine blk_put (cs := #[.slice Ao13 x246000_1.length co13]) ?_ 0 _ rfl; (with_reducible repeat (first | refine blk_drewN ?_ _ | refine blk_drew ?_ | refine blk_alloc ?_ _)); refine blk_far ?_ NB245_275.out _; (with_reducible repeat (first | refine blk_drewN ?_ _ | refine blk_drew ?_ | refine blk_alloc ?_ _)); refine blk_far ?_ NB245_275.out _; (with_reducible repeat (first | refine blk_drewN ?_ _ | refine blk_drew ?_ | refine blk_alloc ?_ _)); refine blk_far ?_ NB245_275.out _; (with_reducible repeat (first | refine blk_drewN ?_ _ | refine blk_drew ?_ | refine blk_alloc ?_ _)); refine blk_far ?_ NB245_275.out _; (with_reducible repeat (first | refine blk_drewN ?_ _ | refine blk_drew ?_ | refine blk_alloc ?_ _)); exact BK245.out⟩, ⟨hx_ HB⟩⟩
    ·rw [if_neg c10] at H
     exact absurd H (by simp)
   ·rw [if_neg c9] at H
    have c9b0 : decide (x9_1 < (l0.length : Int)) = false := decide_eq_false c9
    clear c9
    obtain rfl := Option.some.inj H
    go_wp2
    go_ret
    exact ⟨by first | rfl | (simp [errW_none, errW_some] <;> rfl) | (simp [*, errW_none, errW_some] <;> rfl), hx_ HB⟩

end Go.Proofs.Ytdlkpejlkijgcaa.Pr
