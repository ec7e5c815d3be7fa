/- What the program's functions compute, and that they compute it: printed out of the translation by a program of this session's (px.py, over the kit's printer). Conditions: none. -/
import Derived.Test.YtdlkpejlkijgcaaPr0
import Derived.Test.YtdlkpejlkijgcaaPr1
import Derived.Test.YtdlkpejlkijgcaaPr10
import Derived.Test.YtdlkpejlkijgcaaPr12
import Derived.Test.YtdlkpejlkijgcaaPr15
import Derived.Test.YtdlkpejlkijgcaaPr16
import Derived.Test.YtdlkpejlkijgcaaHandFind
import Derived.Test.YtdlkpejlkijgcaaHandRight
import Derived.Test.YtdlkpejlkijgcaaHandShown
namespace Go.Proofs.Ytdlkpejlkijgcaa.Pr
open Go.RowKit Go.Proofs.YtdlkpejlkijgcaaW.PrintWords Go.Proofs.YtdlkpejlkijgcaaW.PrintLast Go.Proofs.YtdlkpejlkijgcaaW.PrintMore
attribute [local go_sem] max2_int min2_int max_two min_two max_three min_three max_four min_four   -- for this text's walks alone
set_option linter.unusedVariables false
set_option linter.unusedSimpArgs false

attribute [local go_sem high] eqA34
/-! ### ferrulelaw14_CoordFinds: function 7 -/
def ferrulelaw14_CoordFinds.f (k : Nat) (l0_0 : List (S42)) (l1_0 : List (S42)) (a2_0 : Int) (a2_1 : Int) : Option (Bool) := (ferrulelaw14_shown.f).bind fun t345 => ((coord_Find.f l0_0 a2_0 a2_1).bind fun bt346 => ((ferruleref14_Find.f k l0_0 a2_0 a2_1).bind fun bt354 => ((ferruleref01_Same.f k bt346.2.2.1 bt354.2.2.1).bind fun t362 => (if t345 = true then (if (bt346.2.2.2.2 == bt354.2.2.2.2) = true then (if (bt346.1 == bt354.1 && (bt346.2.1 == bt354.2.1)) = true then (if bt346.2.2.2.1 = bt354.2.2.2.1 then (if t362 = true then ((coord_Right.f k l0_0).bind fun t363 => ((ferruleref14_Right.f k l0_0).bind fun t364 => (if (t363 == t364) = true then ((coord_Same.f k l0_0 l1_0).bind fun t365 => ((ferruleref14_Same.f k l0_0 l1_0).bind fun t366 => (some (t365 == t366)))) else (none)))) else (none)) else (none)) else (none)) else (none)) else (none)))))
theorem ferrulelaw14_CoordFinds.mono : ∀ a0 a1 a2 a3 k, LeO (ferrulelaw14_CoordFinds.f k a0 a1 a2 a3) (ferrulelaw14_CoordFinds.f (k + 1) a0 a1 a2 a3) := by
  intro a0 a1 a2 a3 k
  unfold ferrulelaw14_CoordFinds.f
  repeat' first
      | (with_reducible exact coord_Right.mono _ _)
      | (with_reducible exact coord_Same.mono _ _ _)
      | (with_reducible exact ferruleref01_Same.mono _ _ _)
      | (with_reducible exact ferruleref14_Find.mono _ _ _ _)
      | (with_reducible exact ferruleref14_Right.mono _ _)
      | (with_reducible exact ferruleref14_Same.mono _ _ _)
      | (with_reducible exact LeO.refl _)
      | (with_reducible exact LeO.none _)
      | (with_reducible refine LeO.ite ?_ ?_)
      | (with_reducible refine LeO.bind ?_ (fun _ => ?_))
      | exact coord_Right.mono _ _
      | exact coord_Same.mono _ _ _
      | exact ferruleref01_Same.mono _ _ _
      | exact ferruleref14_Find.mono _ _ _ _
      | exact ferruleref14_Right.mono _ _
      | exact ferruleref14_Same.mono _ _ _
      | exact LeO.none _
      | refine LeO.ite ?_ ?_
      | refine LeO.bind ?_ (fun _ => ?_)
def ferrulelaw14_CoordFinds.T5 : Bool × List (List Nat × List Nat) := (true, [([], []), ([0], [0]), ([1], [1]), ([1], [1]), ([2, 3, 1], [1, 2, 3]), ([1, 4], [1, 4]), ([5, 1], [5]), ([6], [6]), ([7, 6], [6, 7]), ([6], [6]), ([9, 6], [6, 9]), ([8, 10, 6], [6, 8, 10]), ([6, 11], [6, 11]), ([12, 6], [12]), ([13], [13]), ([14, 13], [13, 14]), ([13], [13]), ([16, 13], [13, 16]), ([15, 17, 13], [13, 15, 17]), ([13, 18], [13, 18]), ([19, 13], [19]), ([20], [20]), ([20, 21], [20, 21]), ([22, 20], [22]), ([23], [23]), ([24, 23, 23], [23, 24]), ([23], [23]), ([26, 25, 23], [23, 26]), ([25, 27, 23], [23, 25, 27]), ([23, 28], [23, 28]), ([29, 27], [29]), ([30], [30]), ([30], [30]), ([31, 32, 30, 30], [30, 31, 32]), ([30], [30]), ([30], [30]), ([34, 35, 33, 30], [30, 34, 35]), ([33, 36, 30], [30, 33, 36]), ([30, 37], [30, 37]), ([38, 36, 0, 1, 2, 3, 4, 5, 6, 7, 8, 9, 10, 11, 12, 13, 14, 15, 16, 17, 18, 19, 20, 21, 22, 23, 24, 25, 26, 27, 28, 29, 30, 31, 32, 33, 34, 35, 36, 37, 38], [38])])
def ferrulelaw14_CoordFinds.B5 : List Nat := [0, 1, 3, 3, 15, 31, 63, 127, 255, 127, 639, 2047, 4095, 8191, 16383, 32767, 16383, 81919, 262143, 524287, 1048575, 2097151, 4194303, 8388607, 16777215, 33554431, 16777215, 134217727, 268435455, 536870911, 1073741823, 2147483647, 2147483647, 8589934591, 2147483647, 2147483647, 68719476735, 137438953471, 274877906943, 549755813887]
theorem ferrulelaw14_CoordFinds.tab5 : rtab .any (opsOf Try.f7 5) = ferrulelaw14_CoordFinds.T5 := by kernel_rfl
theorem ferrulelaw14_CoordFinds.bits5 : waitsOk ferrulelaw14_CoordFinds.T5.2 ferrulelaw14_CoordFinds.B5 = true := by kernel_rfl
namespace Sh20
theorem am_ {p : Prop} (h : p) : Aside0 p := ⟨h⟩
theorem bx_ {Q P : Prop} (b : Aside0 Q) (h : Q → P := by intro hq_; (with_reducible repeat (first | refine blk_drewN ?_ _ | refine blk_drew ?_ | refine blk_alloc ?_ _)); exact hq_) : P := h b.out
theorem hx_ {Q P : Prop} (b : Aside0 Q) (h : Q → P := by intro hq_; repeat (first | (with_reducible first | exact hq_ | apply below_alloc | apply pw_below_drewN | apply below_drew1 | refine below_set ?_ (Aside0.out (by assumption))) | exact hq_)) : P := h b.out
theorem fz_ {Q G P : Prop} (q : Q) (g : Aside0 G) (h : Q → G → P := by intro q_ g_; first | exact Nat.ne_of_lt (Nat.lt_of_lt_of_le (by have := World.block_lt_of_cell? _ _ q_; first | rwa [add_block] at this | exact this) g_) | (rw [add_block]; exact Nat.ne_of_lt (Nat.lt_of_lt_of_le (by have := World.block_lt_of_cell? _ _ q_; first | rwa [add_block] at this | exact this) g_)) | (show (Addr.add _ _).block ≠ _; rw [add_block]; exact Nat.ne_of_lt (Nat.lt_of_lt_of_le (by have := World.block_lt_of_cell? _ _ q_; first | rwa [add_block] at this | exact this) g_)) | (dsimp only; exact Nat.ne_of_lt (Nat.lt_of_lt_of_le (by have := World.block_lt_of_cell? _ _ q_; first | rwa [add_block] at this | exact this) g_))) : P := h q g.out
theorem vx_ {Q P : Prop} (b : Aside0 Q) (h : Q → P := by intro hq_; (with_reducible repeat (first | apply Kd.V_alloc | apply Kd.V_drewN | apply Kd.V_drew)); exact hq_) : P := h b.out
theorem rx_ {Q P : Prop} (b : Aside0 Q) (h : Q → P := by intro hq_; (with_reducible repeat (first | apply Kd.R_alloc | apply Kd.R_drewN | apply Kd.R_drew)); exact hq_) : P := h b.out
theorem nx_ {Q P : Prop} (b : Aside0 Q) (h : Q → P := by intro hq_; (with_reducible repeat (first | apply Kd.N_alloc | apply Kd.N_drewN | apply Kd.N_drew)); exact hq_) : P := h b.out
abbrev bN0_ : Array Bool := #[false, false, false, false, false, false, false, false, false, false, false, false, false, false, false, false, false, false, false, false, false, false, false, false, false, false, false, false, false, false, false, false, false, false, false, false, false, false, false, false]
abbrev bN1_ : Array Bool := #[true, false, false, false, false, false, false, false, false, false, false, false, false, false, false, false, false, false, false, false, false, false, false, false, false, false, false, false, false, false, false, false, false, false, false, false, false, false, false, false]
abbrev bN2_ : Array Bool := #[true, true, false, false, false, false, false, false, false, false, false, false, false, false, false, false, false, false, false, false, false, false, false, false, false, false, false, false, false, false, false, false, false, false, false, false, false, false, false, false]
abbrev bN3_ : Array Bool := #[true, true, true, false, false, false, false, false, false, false, false, false, false, false, false, false, false, false, false, false, false, false, false, false, false, false, false, false, false, false, false, false, false, false, false, false, false, false, false, false]
abbrev bN4_ : Array Bool := #[true, true, true, true, false, false, false, false, false, false, false, false, false, false, false, false, false, false, false, false, false, false, false, false, false, false, false, false, false, false, false, false, false, false, false, false, false, false, false, false]
abbrev bN5_ : Array Bool := #[true, true, true, true, true, false, false, false, false, false, false, false, false, false, false, false, false, false, false, false, false, false, false, false, false, false, false, false, false, false, false, false, false, false, false, false, false, false, false, false]
abbrev bN6_ : Array Bool := #[true, true, true, true, true, true, false, false, false, false, false, false, false, false, false, false, false, false, false, false, false, false, false, false, false, false, false, false, false, false, false, false, false, false, false, false, false, false, false, false]
abbrev bN7_ : Array Bool := #[true, true, true, true, true, true, true, false, false, false, false, false, false, false, false, false, false, false, false, false, false, false, false, false, false, false, false, false, false, false, false, false, false, false, false, false, false, false, false, false]
abbrev bN8_ : Array Bool := #[true, true, true, true, true, true, true, true, false, false, false, false, false, false, false, false, false, false, false, false, false, false, false, false, false, false, false, false, false, false, false, false, false, false, false, false, false, false, false, false]
abbrev bN9_ : Array Bool := #[true, true, true, true, true, true, true, true, false, true, false, false, false, false, false, false, false, false, false, false, false, false, false, false, false, false, false, false, false, false, false, false, false, false, false, false, false, false, false, false]
abbrev bN10_ : Array Bool := #[true, true, true, true, true, true, true, true, true, true, false, false, false, false, false, false, false, false, false, false, false, false, false, false, false, false, false, false, false, false, false, false, false, false, false, false, false, false, false, false]
abbrev bN11_ : Array Bool := #[true, true, true, true, true, true, true, true, true, true, true, false, false, false, false, false, false, false, false, false, false, false, false, false, false, false, false, false, false, false, false, false, false, false, false, false, false, false, false, false]
abbrev bN12_ : Array Bool := #[true, true, true, true, true, true, true, true, true, true, true, true, false, false, false, false, false, false, false, false, false, false, false, false, false, false, false, false, false, false, false, false, false, false, false, false, false, false, false, false]
abbrev bN13_ : Array Bool := #[true, true, true, true, true, true, true, true, true, true, true, true, true, false, false, false, false, false, false, false, false, false, false, false, false, false, false, false, false, false, false, false, false, false, false, false, false, false, false, false]
abbrev bN14_ : Array Bool := #[true, true, true, true, true, true, true, true, true, true, true, true, true, true, false, false, false, false, false, false, false, false, false, false, false, false, false, false, false, false, false, false, false, false, false, false, false, false, false, false]
abbrev bN15_ : Array Bool := #[true, true, true, true, true, true, true, true, true, true, true, true, true, true, true, false, false, false, false, false, false, false, false, false, false, false, false, false, false, false, false, false, false, false, false, false, false, false, false, false]
abbrev bN16_ : Array Bool := #[true, true, true, true, true, true, true, true, true, true, true, true, true, true, true, false, true, false, false, false, false, false, false, false, false, false, false, false, false, false, false, false, false, false, false, false, false, false, false, false]
abbrev bN17_ : Array Bool := #[true, true, true, true, true, true, true, true, true, true, true, true, true, true, true, true, true, false, false, false, false, false, false, false, false, false, false, false, false, false, false, false, false, false, false, false, false, false, false, false]
abbrev bN18_ : Array Bool := #[true, true, true, true, true, true, true, true, true, true, true, true, true, true, true, true, true, true, false, false, false, false, false, false, false, false, false, false, false, false, false, false, false, false, false, false, false, false, false, false]
abbrev bN19_ : Array Bool := #[true, true, true, true, true, true, true, true, true, true, true, true, true, true, true, true, true, true, true, false, false, false, false, false, false, false, false, false, false, false, false, false, false, false, false, false, false, false, false, false]
abbrev bN20_ : Array Bool := #[true, true, true, true, true, true, true, true, true, true, true, true, true, true, true, true, true, true, true, true, false, false, false, false, false, false, false, false, false, false, false, false, false, false, false, false, false, false, false, false]
abbrev bN21_ : Array Bool := #[true, true, true, true, true, true, true, true, true, true, true, true, true, true, true, true, true, true, true, true, true, false, false, false, false, false, false, false, false, false, false, false, false, false, false, false, false, false, false, false]
abbrev bN22_ : Array Bool := #[true, true, true, true, true, true, true, true, true, true, true, true, true, true, true, true, true, true, true, true, true, true, false, false, false, false, false, false, false, false, false, false, false, false, false, false, false, false, false, false]
abbrev bN23_ : Array Bool := #[true, true, true, true, true, true, true, true, true, true, true, true, true, true, true, true, true, true, true, true, true, true, true, false, false, false, false, false, false, false, false, false, false, false, false, false, false, false, false, false]
abbrev bN24_ : Array Bool := #[true, true, true, true, true, true, true, true, true, true, true, true, true, true, true, true, true, true, true, true, true, true, true, true, false, false, false, false, false, false, false, false, false, false, false, false, false, false, false, false]
abbrev bN25_ : Array Bool := #[true, true, true, true, true, true, true, true, true, true, true, true, true, true, true, true, true, true, true, true, true, true, true, true, true, false, false, false, false, false, false, false, false, false, false, false, false, false, false, false]
abbrev bN26_ : Array Bool := #[true, true, true, true, true, true, true, true, true, true, true, true, true, true, true, true, true, true, true, true, true, true, true, true, true, false, true, false, false, false, false, false, false, false, false, false, false, false, false, false]
abbrev bN27_ : Array Bool := #[true, true, true, true, true, true, true, true, true, true, true, true, true, true, true, true, true, true, true, true, true, true, true, true, true, true, true, false, false, false, false, false, false, false, false, false, false, false, false, false]
abbrev bN28_ : Array Bool := #[true, true, true, true, true, true, true, true, true, true, true, true, true, true, true, true, true, true, true, true, true, true, true, true, true, true, true, true, false, false, false, false, false, false, false, false, false, false, false, false]
abbrev bN29_ : Array Bool := #[true, true, true, true, true, true, true, true, true, true, true, true, true, true, true, true, true, true, true, true, true, true, true, true, true, true, true, true, true, false, false, false, false, false, false, false, false, false, false, false]
abbrev bN30_ : Array Bool := #[true, true, true, true, true, true, true, true, true, true, true, true, true, true, true, true, true, true, true, true, true, true, true, true, true, true, true, true, true, true, false, false, false, false, false, false, false, false, false, false]
abbrev bN31_ : Array Bool := #[true, true, true, true, true, true, true, true, true, true, true, true, true, true, true, true, true, true, true, true, true, true, true, true, true, true, true, true, true, true, true, false, false, false, false, false, false, false, false, false]
abbrev bN32_ : Array Bool := #[true, true, true, true, true, true, true, true, true, true, true, true, true, true, true, true, true, true, true, true, true, true, true, true, true, true, true, true, true, true, true, true, false, false, false, false, false, false, false, false]
abbrev bN33_ : Array Bool := #[true, true, true, true, true, true, true, true, true, true, true, true, true, true, true, true, true, true, true, true, true, true, true, true, true, true, true, true, true, true, true, true, true, false, false, false, false, false, false, false]
abbrev bN34_ : Array Bool := #[true, true, true, true, true, true, true, true, true, true, true, true, true, true, true, true, true, true, true, true, true, true, true, true, true, true, true, true, true, true, true, true, true, false, true, false, false, false, false, false]
abbrev bN35_ : Array Bool := #[true, true, true, true, true, true, true, true, true, true, true, true, true, true, true, true, true, true, true, true, true, true, true, true, true, true, true, true, true, true, true, true, true, false, true, true, false, false, false, false]
abbrev bN36_ : Array Bool := #[true, true, true, true, true, true, true, true, true, true, true, true, true, true, true, true, true, true, true, true, true, true, true, true, true, true, true, true, true, true, true, true, true, true, true, true, false, false, false, false]
abbrev bN37_ : Array Bool := #[true, true, true, true, true, true, true, true, true, true, true, true, true, true, true, true, true, true, true, true, true, true, true, true, true, true, true, true, true, true, true, true, true, true, true, true, true, false, false, false]
abbrev bN38_ : Array Bool := #[true, true, true, true, true, true, true, true, true, true, true, true, true, true, true, true, true, true, true, true, true, true, true, true, true, true, true, true, true, true, true, true, true, true, true, true, true, true, false, false]
abbrev bN39_ : Array Bool := #[true, true, true, true, true, true, true, true, true, true, true, true, true, true, true, true, true, true, true, true, true, true, true, true, true, true, true, true, true, true, true, true, true, true, true, true, true, true, true, false]
abbrev bN40_ : Array Bool := #[true, true, true, true, true, true, true, true, true, true, true, true, true, true, true, true, true, true, true, true, true, true, true, true, true, true, true, true, true, true, true, true, true, true, true, true, true, true, true, true]
end Sh20
open Sh20
set_option maxHeartbeats 8000000 in
set_option maxRecDepth 100000 in
theorem ferrulelaw14_CoordFinds.calls (k : Nat) (A0_0 : Option Addr) (c0_0 : Nat) (l0_0 : List (S42)) (A1_0 : Option Addr) (c1_0 : Nat) (l1_0 : List (S42)) (a2_0 : Int) (a2_1 : Int) (r : Bool) (w : World) (hr0_0 : Kd.C k42 w A0_0 l0_0.length l0_0) (hc0_0 : l0_0.length ≤ c0_0) (hr1_0 : Kd.C k42 w A1_0 l1_0.length l1_0) (hc1_0 : l1_0.length ≤ c1_0) (h : ferrulelaw14_CoordFinds.f k l0_0 l1_0 a2_0 a2_1 = some r) :
  Calls Try.prog 7 #[.agg #[.slice A0_0 l0_0.length c0_0], .agg #[.slice A1_0 l1_0.length c1_0], .agg #[.int .u64 a2_0, .int .u64 a2_1]] w fun e w' => e = .returned (.bool r) ∧ Below w.heap.size w w' := by
 have hu26 := Try.underlying26
 have hu34 := Try.underlying34
 have hu42 := Try.underlying42
 have HR0_0 := am_ hr0_0
 have HC0_0 := am_ hc0_0
 clear hr0_0 hc0_0
 have HR1_0 := am_ hr1_0
 have HC1_0 := am_ hc1_0
 clear hr1_0 hc1_0
 have HB := am_ (Below.refl w.heap.size w)
 have H : ((ferrulelaw14_shown.f).bind fun t345 => ((coord_Find.f l0_0 a2_0 a2_1).bind fun bt346 => ((ferruleref14_Find.f k l0_0 a2_0 a2_1).bind fun bt354 => ((ferruleref01_Same.f k bt346.2.2.1 bt354.2.2.1).bind fun t362 => (if t345 = true then (if (bt346.2.2.2.2 == bt354.2.2.2.2) = true then (if (bt346.1 == bt354.1 && (bt346.2.1 == bt354.2.1)) = true then (if bt346.2.2.2.1 = bt354.2.2.2.1 then (if t362 = true then ((coord_Right.f k l0_0).bind fun t363 => ((ferruleref14_Right.f k l0_0).bind fun t364 => (if (t363 == t364) = true then ((coord_Same.f k l0_0 l1_0).bind fun t365 => ((ferruleref14_Same.f k l0_0 l1_0).bind fun t366 => (some (t365 == t366)))) else (none)))) else (none)) else (none)) else (none)) else (none)) else (none)))))) = some r := h
 clear h
 replace H := Option.bind_eq_some_iff.mp H
 obtain ⟨t345, A40, H⟩ := H
 replace H : ((coord_Find.f l0_0 a2_0 a2_1).bind fun bt346 => ((ferruleref14_Find.f k l0_0 a2_0 a2_1).bind fun bt354 => ((ferruleref01_Same.f k bt346.2.2.1 bt354.2.2.1).bind fun t362 => (if t345 = true then (if (bt346.2.2.2.2 == bt354.2.2.2.2) = true then (if (bt346.1 == bt354.1 && (bt346.2.1 == bt354.2.1)) = true then (if bt346.2.2.2.1 = bt354.2.2.2.1 then (if t362 = true then ((coord_Right.f k l0_0).bind fun t363 => ((ferruleref14_Right.f k l0_0).bind fun t364 => (if (t363 == t364) = true then ((coord_Same.f k l0_0 l1_0).bind fun t365 => ((ferruleref14_Same.f k l0_0 l1_0).bind fun t366 => (some (t365 == t366)))) else (none)))) else (none)) else (none)) else (none)) else (none)) else (none))))) = some r := H
 have A4 := am_ A40
 clear A40
 replace H := Option.bind_eq_some_iff.mp H
 obtain ⟨⟨t346, t347, t348, t351, t352⟩, A50, H⟩ := H
 replace H : ((ferruleref14_Find.f k l0_0 a2_0 a2_1).bind fun bt354 => ((ferruleref01_Same.f k t348 bt354.2.2.1).bind fun t362 => (if t345 = true then (if (t352 == bt354.2.2.2.2) = true then (if (t346 == bt354.1 && (t347 == bt354.2.1)) = true then (if t351 = bt354.2.2.2.1 then (if t362 = true then ((coord_Right.f k l0_0).bind fun t363 => ((ferruleref14_Right.f k l0_0).bind fun t364 => (if (t363 == t364) = true then ((coord_Same.f k l0_0 l1_0).bind fun t365 => ((ferruleref14_Same.f k l0_0 l1_0).bind fun t366 => (some (t365 == t366)))) else (none)))) else (none)) else (none)) else (none)) else (none)) else (none)))) = some r := H
 have A5 := am_ A50
 clear A50
 replace H := Option.bind_eq_some_iff.mp H
 obtain ⟨⟨t354, t355, t356, t359, t360⟩, A60, H⟩ := H
 replace H : ((ferruleref01_Same.f k t348 t356).bind fun t362 => (if t345 = true then (if (t352 == t360) = true then (if (t346 == t354 && (t347 == t355)) = true then (if t351 = t359 then (if t362 = true then ((coord_Right.f k l0_0).bind fun t363 => ((ferruleref14_Right.f k l0_0).bind fun t364 => (if (t363 == t364) = true then ((coord_Same.f k l0_0 l1_0).bind fun t365 => ((ferruleref14_Same.f k l0_0 l1_0).bind fun t366 => (some (t365 == t366)))) else (none)))) else (none)) else (none)) else (none)) else (none)) else (none))) = some r := H
 have A6 := am_ A60
 clear A60
 replace H := Option.bind_eq_some_iff.mp H
 obtain ⟨t362, A70, H⟩ := H
 replace H : (if t345 = true then (if (t352 == t360) = true then (if (t346 == t354 && (t347 == t355)) = true then (if t351 = t359 then (if t362 = true then ((coord_Right.f k l0_0).bind fun t363 => ((ferruleref14_Right.f k l0_0).bind fun t364 => (if (t363 == t364) = true then ((coord_Same.f k l0_0 l1_0).bind fun t365 => ((ferruleref14_Same.f k l0_0 l1_0).bind fun t366 => (some (t365 == t366)))) else (none)))) else (none)) else (none)) else (none)) else (none)) else (none)) = some r := H
 have A7 := am_ A70
 clear A70
 by_cases c8 : t345 = true
 ·subst c8
  have H1 : (if (t352 == t360) = true then (if (t346 == t354 && (t347 == t355)) = true then (if t351 = t359 then (if t362 = true then ((coord_Right.f k l0_0).bind fun t363 => ((ferruleref14_Right.f k l0_0).bind fun t364 => (if (t363 == t364) = true then ((coord_Same.f k l0_0 l1_0).bind fun t365 => ((ferruleref14_Same.f k l0_0 l1_0).bind fun t366 => (some (t365 == t366)))) else (none)))) else (none)) else (none)) else (none)) else (none)) = some r := by rw [if_pos rfl] at H; exact H
  clear H
  have H := H1
  clear H1
  by_cases c9 : (t352 == t360) = true
  ·rw [if_pos c9] at H
   have c9b0 : (t352 == t360) = true := c9
   (try (have c9b1 : decide (t352 = t360) = true := by simpa using c9))
   (try (have c9b2 : (t352 == t360) = true := by simpa using c9))
   clear c9
   by_cases c10 : (t346 == t354 && (t347 == t355)) = true
   ·rw [if_pos c10] at H
    have c10b0 : (t346 == t354 && (t347 == t355)) = true := c10
    (try (have c10b1 : decide (t346 = t354 && (t347 == t355)) = true := by simpa using c10))
    (try (have c10b2 : (t346 == t354 && (t347 == t355)) = true := by simpa using c10))
    clear c10
    by_cases c11 : t351 = t359
    ·rw [if_pos c11] at H
     have c11b0 : (t351 == t359) = true := beq_iff_eq.mpr c11
     have c11b1 : (t351 != t359) = false := bne_eq_false_iff_eq.mpr c11
     clear c11
     by_cases c12 : t362 = true
     ·subst c12
      have H1 : ((coord_Right.f k l0_0).bind fun t363 => ((ferruleref14_Right.f k l0_0).bind fun t364 => (if (t363 == t364) = true then ((coord_Same.f k l0_0 l1_0).bind fun t365 => ((ferruleref14_Same.f k l0_0 l1_0).bind fun t366 => (some (t365 == t366)))) else (none)))) = some r := by rw [if_pos rfl] at H; exact H
      clear H
      have H := H1
      clear H1
      replace H := Option.bind_eq_some_iff.mp H
      obtain ⟨t363, A130, H⟩ := H
      replace H : ((ferruleref14_Right.f k l0_0).bind fun t364 => (if (t363 == t364) = true then ((coord_Same.f k l0_0 l1_0).bind fun t365 => ((ferruleref14_Same.f k l0_0 l1_0).bind fun t366 => (some (t365 == t366)))) else (none))) = some r := H
      have A13 := am_ A130
      clear A130
      replace H := Option.bind_eq_some_iff.mp H
      obtain ⟨t364, A140, H⟩ := H
      replace H : (if (t363 == t364) = true then ((coord_Same.f k l0_0 l1_0).bind fun t365 => ((ferruleref14_Same.f k l0_0 l1_0).bind fun t366 => (some (t365 == t366)))) else (none)) = some r := H
      have A14 := am_ A140
      clear A140
      by_cases c15 : (t363 == t364) = true
      ·rw [if_pos c15] at H
       have c15b0 : (t363 == t364) = true := c15
       (try (have c15b1 : decide (t363 = t364) = true := by simpa using c15))
       (try (have c15b2 : (t363 == t364) = true := by simpa using c15))
       clear c15
       replace H := Option.bind_eq_some_iff.mp H
       obtain ⟨t365, A160, H⟩ := H
       replace H : ((ferruleref14_Same.f k l0_0 l1_0).bind fun t366 => (some (t365 == t366))) = some r := H
       have A16 := am_ A160
       clear A160
       replace H := Option.bind_eq_some_iff.mp H
       obtain ⟨t366, A170, H⟩ := H
       replace H : (some (t365 == t366)) = some r := H
       have A17 := am_ A170
       clear A170
       obtain rfl := Option.some.inj H
       go_enter Try.func7, Try.ntmps7
       try go_wp2_with (first | ((with_reducible refine gate_dst (N := 3) rfl ?_); refine box_event ?hg (N := 3) ?hd (cs := #[.slice A0_0 l0_0.length c0_0]) (t := 26) ?hr ?_; (case hd => rfl); (case hg => rfl); (case hr => first | (go_simp; done) | (go_simp; rfl)); intro gb342 hg w18 hbox hb; have n0_ := am_ (below_step (hx_ HB) hb); have n1_ := am_ (hbox); have n2_ := am_ ((by rw [hg]; exact (below_size (hx_ HB)) : w.heap.size ≤ gb342)); have n3_ := am_ ((by rw [hg]; exact (below_size (hx_ HB)) : w.heap.size ≤ gb342)); clear HB; have HB := n0_; have BK342 := n1_; have GW342 := n2_; have GE342 := n3_; clear n0_ n1_ n2_ n3_; clear hb hbox hg) | ((with_reducible refine gate_dst (N := 4) rfl ?_); refine box_event ?hg (N := 4) ?hd (cs := #[.slice A1_0 l1_0.length c1_0]) (t := 26) ?hr ?_; (case hd => rfl); (case hg => rfl); (case hr => first | (go_simp; done) | (go_simp; rfl)); intro gb343 hg w19 hbox hb; have n0_ := am_ (blk_below (g := gb342) (o := .cells #[.slice A0_0 l0_0.length c0_0] 26 (0, 0)) (bx_ BK342) hb); have n1_ := am_ (below_step (hx_ HB) hb); have n2_ := am_ (hbox); have n3_ := am_ ((by rw [hg]; exact (below_size (hx_ HB)) : w.heap.size ≤ gb343)); have n4_ := am_ ((by rw [hg]; exact (below_size (hx_ HB)) : w.heap.size ≤ gb343)); have n5_ := am_ ((by rw [hg]; exact Nat.ne_of_lt (blk_lt (g := gb342) (o := .cells #[.slice A0_0 l0_0.length c0_0] 26 (0, 0)) (bx_ BK342)) : gb342 ≠ gb343)); have n6_ := am_ ((by rw [hg]; exact Nat.ne_of_gt (blk_lt (g := gb342) (o := .cells #[.slice A0_0 l0_0.length c0_0] 26 (0, 0)) (bx_ BK342)) : gb343 ≠ gb342)); clear BK342; clear HB; have BK342 := n0_; have HB := n1_; have BK343 := n2_; have GW343 := n3_; have GE343 := n4_; have NB342_343 := n5_; have NB343_342 := n6_; clear n0_ n1_ n2_ n3_ n4_ n5_ n6_; clear hb hbox hg) | ((with_reducible refine gate_dst (N := 5) rfl ?_); refine box_event ?hg (N := 5) ?hd (cs := #[.int .u64 a2_0, .int .u64 a2_1]) (t := 34) ?hr ?_; (case hd => rfl); (case hg => rfl); (case hr => first | (go_simp; done) | (go_simp; rfl)); intro gb344 hg w20 hbox hb; have n0_ := am_ (blk_below (g := gb342) (o := .cells #[.slice A0_0 l0_0.length c0_0] 26 (0, 0)) (bx_ BK342) hb); have n1_ := am_ (blk_below (g := gb343) (o := .cells #[.slice A1_0 l1_0.length c1_0] 26 (0, 0)) (bx_ BK343) hb); have n2_ := am_ (below_step (hx_ HB) hb); have n3_ := am_ (hbox); have n4_ := am_ ((by rw [hg]; exact (below_size (hx_ HB)) : w.heap.size ≤ gb344)); have n5_ := am_ ((by rw [hg]; exact (below_size (hx_ HB)) : w.heap.size ≤ gb344)); have n6_ := am_ ((by rw [hg]; exact Nat.ne_of_lt (blk_lt (g := gb342) (o := .cells #[.slice A0_0 l0_0.length c0_0] 26 (0, 0)) (bx_ BK342)) : gb342 ≠ gb344)); have n7_ := am_ ((by rw [hg]; exact Nat.ne_of_gt (blk_lt (g := gb342) (o := .cells #[.slice A0_0 l0_0.length c0_0] 26 (0, 0)) (bx_ BK342)) : gb344 ≠ gb342)); have n8_ := am_ ((by rw [hg]; exact Nat.ne_of_lt (blk_lt (g := gb343) (o := .cells #[.slice A1_0 l1_0.length c1_0] 26 (0, 0)) (bx_ BK343)) : gb343 ≠ gb344)); have n9_ := am_ ((by rw [hg]; exact Nat.ne_of_gt (blk_lt (g := gb343) (o := .cells #[.slice A1_0 l1_0.length c1_0] 26 (0, 0)) (bx_ BK343)) : gb344 ≠ gb343)); clear BK342; clear BK343; clear HB; have BK342 := n0_; have BK343 := n1_; have HB := n2_; have BK344 := n3_; have GW344 := n4_; have GE344 := n5_; have NB342_344 := n6_; have NB344_342 := n7_; have NB343_344 := n8_; have NB344_343 := n9_; clear n0_ n1_ n2_ n3_ n4_ n5_ n6_ n7_ n8_ n9_; clear hb hbox hg) | ((with_reducible refine gate_callee (f := 8) rfl ?_); refine goesL_ (some 13) rfl rfl Try.func8 (by kernel_rfl) rfl #[] rfl (by (try simp only [List.map_toArray, List.map_cons, List.map_nil]); first | done | rfl | (simp only [List.length_drop, List.length_take]; rfl)) ?_; (with_reducible refine (ferrulelaw14_shown.calls  true _ A4.out).mono ?_); rintro e w21 ⟨rfl, hb⟩; refine ⟨_, rfl, ?_⟩; have n0_ := am_ (blk_below (g := gb342) (o := .cells #[.slice A0_0 l0_0.length c0_0] 26 (0, 0)) (bx_ BK342) hb); have n1_ := am_ (blk_below (g := gb343) (o := .cells #[.slice A1_0 l1_0.length c1_0] 26 (0, 0)) (bx_ BK343) hb); have n2_ := am_ (blk_below (g := gb344) (o := .cells #[.int .u64 a2_0, .int .u64 a2_1] 34 (0, 0)) (bx_ BK344) hb); have n3_ := am_ (below_step (hx_ HB) hb); clear BK342; clear BK343; clear BK344; clear HB; have BK342 := n0_; have BK343 := n1_; have BK344 := n2_; have HB := n3_; clear n0_ n1_ n2_ n3_; (try clear hb); (try clear hb2); (try clear hk); (try clear hi); have hnb22 := NB342_343.out; have hnc22 := NB343_342.out; have hnb23 := NB342_344.out; have hnc23 := NB344_342.out; have hcz24_0 : w21.cell? ⟨gb342, 0, none⟩ = some (.slice A0_0 l0_0.length c0_0) := (blk_cell BK342.out 0).trans rfl; have hfz24_0 := blk_frozen BK342.out 0; have hnb25 := NB344_343.out; have hnc25 := NB343_344.out; have hcz26_0 : w21.cell? ⟨gb344, 0, none⟩ = some (.int .u64 a2_0) := (blk_cell BK344.out 0).trans rfl; have hcz26_1 : w21.cell? ⟨gb344, 1, none⟩ = some (.int .u64 a2_1) := (blk_cell BK344.out 1).trans rfl; have hfz26_0 := blk_frozen BK344.out 0; have hfz26_1 := blk_frozen BK344.out 1) | ((with_reducible refine gate_callee (f := 14) rfl ?_); refine goesL_ (some 17) rfl rfl Try.func14 (by kernel_rfl) rfl #[.agg #[.slice A0_0 l0_0.length c0_0], .agg #[.int .u64 a2_0, .int .u64 a2_1]] rfl (by (try simp only [List.map_toArray, List.map_cons, List.map_nil]); first | done | rfl | (simp only [List.length_drop, List.length_take]; rfl)) ?_; (with_reducible refine (coord_Find.calls _ _ l0_0 a2_0 a2_1 t346 t347 t348 t351 t352 _ ?side1 ?side2 A5.out).mono ?_); (case side1 => repeat (first | exact (Kd.C_below HR0_0.out HB.out) | (with_reducible refine Kd.C_alloc ?_ _) | (with_reducible refine Kd.C_drewN ?_ _) | (with_reducible refine Kd.C_drew ?_))); (case side2 => exact HC0_0.out); rintro e w27 ⟨v349, rfl, ho0, hb⟩; refine ⟨_, rfl, ?_⟩; have n0_ := am_ (Kd.R_lower ho0 (below_size (hx_ HB))); have n1_ := am_ (blk_below (g := gb342) (o := .cells #[.slice A0_0 l0_0.length c0_0] 26 (0, 0)) (bx_ BK342) hb); have n2_ := am_ (blk_below (g := gb343) (o := .cells #[.slice A1_0 l1_0.length c1_0] 26 (0, 0)) (bx_ BK343) hb); have n3_ := am_ (blk_below (g := gb344) (o := .cells #[.int .u64 a2_0, .int .u64 a2_1] 34 (0, 0)) (bx_ BK344) hb); have n4_ := am_ (below_step (hx_ HB) hb); clear BK342; clear BK343; clear BK344; clear HB; have HO350 := n0_; have BK342 := n1_; have BK343 := n2_; have BK344 := n3_; have HB := n4_; clear n0_ n1_ n2_ n3_ n4_; (try clear hb); (try clear hb2); (try clear hk); (try clear hi); (try clear ho0)) | ((with_reducible refine gate_dst (N := 8) rfl ?_); refine box_event ?hg (N := 8) ?hd (cs := #[.int .u64 0, .int .u64 0, .slice none 0 0, .int .i64 0]) (t := 42) ?hr ?_; (case hd => rfl); (case hg => rfl); (case hr => first | (go_simp; done) | (go_simp; rfl)); intro gb353 hg w28 hbox hb; have n0_ := am_ (Kd.R_below (rx_ HO350) hb); have n1_ := am_ (blk_below (g := gb342) (o := .cells #[.slice A0_0 l0_0.length c0_0] 26 (0, 0)) (bx_ BK342) hb); have n2_ := am_ (blk_below (g := gb343) (o := .cells #[.slice A1_0 l1_0.length c1_0] 26 (0, 0)) (bx_ BK343) hb); have n3_ := am_ (blk_below (g := gb344) (o := .cells #[.int .u64 a2_0, .int .u64 a2_1] 34 (0, 0)) (bx_ BK344) hb); have n4_ := am_ (below_step (hx_ HB) hb); have n5_ := am_ (hbox); have n6_ := am_ ((by rw [hg]; exact (below_size (hx_ HB)) : w.heap.size ≤ gb353)); have n7_ := am_ ((by rw [hg]; exact (below_size (hx_ HB)) : w.heap.size ≤ gb353)); have n8_ := am_ ((by rw [hg]; exact Nat.ne_of_lt (blk_lt (g := gb342) (o := .cells #[.slice A0_0 l0_0.length c0_0] 26 (0, 0)) (bx_ BK342)) : gb342 ≠ gb353)); have n9_ := am_ ((by rw [hg]; exact Nat.ne_of_gt (blk_lt (g := gb342) (o := .cells #[.slice A0_0 l0_0.length c0_0] 26 (0, 0)) (bx_ BK342)) : gb353 ≠ gb342)); have n10_ := am_ ((by rw [hg]; exact Nat.ne_of_lt (blk_lt (g := gb343) (o := .cells #[.slice A1_0 l1_0.length c1_0] 26 (0, 0)) (bx_ BK343)) : gb343 ≠ gb353)); have n11_ := am_ ((by rw [hg]; exact Nat.ne_of_gt (blk_lt (g := gb343) (o := .cells #[.slice A1_0 l1_0.length c1_0] 26 (0, 0)) (bx_ BK343)) : gb353 ≠ gb343)); have n12_ := am_ ((by rw [hg]; exact Nat.ne_of_lt (blk_lt (g := gb344) (o := .cells #[.int .u64 a2_0, .int .u64 a2_1] 34 (0, 0)) (bx_ BK344)) : gb344 ≠ gb353)); have n13_ := am_ ((by rw [hg]; exact Nat.ne_of_gt (blk_lt (g := gb344) (o := .cells #[.int .u64 a2_0, .int .u64 a2_1] 34 (0, 0)) (bx_ BK344)) : gb353 ≠ gb344)); clear HO350; clear BK342; clear BK343; clear BK344; clear HB; have HO350 := n0_; have BK342 := n1_; have BK343 := n2_; have BK344 := n3_; have HB := n4_; have BK353 := n5_; have GW353 := n6_; have GE353 := n7_; have NB342_353 := n8_; have NB353_342 := n9_; have NB343_353 := n10_; have NB353_343 := n11_; have NB344_353 := n12_; have NB353_344 := n13_; clear n0_ n1_ n2_ n3_ n4_ n5_ n6_ n7_ n8_ n9_ n10_ n11_ n12_ n13_; clear hb hbox hg; have hnb29 := NB353_342.out; have hnc29 := NB342_353.out; have hnb30 := NB353_343.out; have hnc30 := NB343_353.out; have hnb31 := NB353_344.out; have hnc31 := NB344_353.out; have hcz32_0 : w28.cell? ⟨gb353, 0, none⟩ = some (.int .u64 0) := (blk_cell BK353.out 0).trans rfl; have hcz32_1 : w28.cell? ⟨gb353, 1, none⟩ = some (.int .u64 0) := (blk_cell BK353.out 1).trans rfl; have hcz32_2 : w28.cell? ⟨gb353, 2, none⟩ = some (.slice none 0 0) := (blk_cell BK353.out 2).trans rfl; have hcz32_3 : w28.cell? ⟨gb353, 3, none⟩ = some (.int .i64 0) := (blk_cell BK353.out 3).trans rfl; have hfz32_0 := blk_frozen BK353.out 0; have hfz32_1 := blk_frozen BK353.out 1; have hfz32_2 := blk_frozen BK353.out 2; have hfz32_3 := blk_frozen BK353.out 3; obtain ⟨Ao33, co33, eo33⟩ := Kd.R_slice HO350.out; subst eo33) | ((with_reducible refine gate_store (t := 42) (p := 8) rfl ?_); refine store_event (t := 42) (p := 8) (v := ?vo_w34) (w1 := ((((w28.setCell ⟨gb353, 0, none⟩ (.int .u64 t346)).setCell ⟨gb353, 1, none⟩ (.int .u64 t347)).setCell ⟨gb353, 2, none⟩ (.slice Ao33 t348.length co33)).setCell ⟨gb353, 3, none⟩ (.int .i64 t351))) ?hg ?ho ?hn ?hr ?_; (case ho => rfl); (case hg => rfl); (case hn => rfl); (case hr => first | (go_simp; done) | (go_simp; rfl)); intro w34 hw; have n0_ : Aside0 (Kd.R (Kd.int .u64) 28 w34 w.heap.size (fun _ => True) (.slice Ao33 t348.length co33) t348) := ⟨(by rw [hw]; exact (by (with_reducible repeat (first | apply Kd.R_alloc | apply Kd.R_drewN | apply Kd.R_drew)); exact Kd.R_mono (Kd.R_far (p := ⟨gb353, 3, none⟩) (Kd.R_far (p := ⟨gb353, 2, none⟩) (Kd.R_far (p := ⟨gb353, 1, none⟩) (Kd.R_far (p := ⟨gb353, 0, none⟩) (Kd.R_types HO350.out BK353.out (by decide)) (fun _ hk => hk.2) (.int .u64 t346)) (fun _ hk => hk.2) (.int .u64 t347)) (fun _ hk => hk.2) (.slice Ao33 t348.length co33)) (fun _ hk => hk.2) (.int .i64 t351)) (fun _ hk => trivial)))⟩; have n1_ : Aside0 (w34.heap[gb342]? = some (.cells #[.slice A0_0 l0_0.length c0_0] 26 (0, 0))) := ⟨(by rw [hw]; exact (by (with_reducible repeat (first | refine blk_drewN ?_ _ | refine blk_drew ?_ | refine blk_alloc ?_ _)); refine blk_far ?_ NB342_353.out _; (with_reducible repeat (first | refine blk_drewN ?_ _ | refine blk_drew ?_ | refine blk_alloc ?_ _)); refine blk_far ?_ NB342_353.out _; (with_reducible repeat (first | refine blk_drewN ?_ _ | refine blk_drew ?_ | refine blk_alloc ?_ _)); refine blk_far ?_ NB342_353.out _; (with_reducible repeat (first | refine blk_drewN ?_ _ | refine blk_drew ?_ | refine blk_alloc ?_ _)); refine blk_far ?_ NB342_353.out _; (with_reducible repeat (first | refine blk_drewN ?_ _ | refine blk_drew ?_ | refine blk_alloc ?_ _)); exact BK342.out))⟩; have n2_ : Aside0 (w34.heap[gb343]? = some (.cells #[.slice A1_0 l1_0.length c1_0] 26 (0, 0))) := ⟨(by rw [hw]; exact (by (with_reducible repeat (first | refine blk_drewN ?_ _ | refine blk_drew ?_ | refine blk_alloc ?_ _)); refine blk_far ?_ NB343_353.out _; (with_reducible repeat (first | refine blk_drewN ?_ _ | refine blk_drew ?_ | refine blk_alloc ?_ _)); refine blk_far ?_ NB343_353.out _; (with_reducible repeat (first | refine blk_drewN ?_ _ | refine blk_drew ?_ | refine blk_alloc ?_ _)); refine blk_far ?_ NB343_353.out _; (with_reducible repeat (first | refine blk_drewN ?_ _ | refine blk_drew ?_ | refine blk_alloc ?_ _)); refine blk_far ?_ NB343_353.out _; (with_reducible repeat (first | refine blk_drewN ?_ _ | refine blk_drew ?_ | refine blk_alloc ?_ _)); exact BK343.out))⟩; have n3_ : Aside0 (w34.heap[gb344]? = some (.cells #[.int .u64 a2_0, .int .u64 a2_1] 34 (0, 0))) := ⟨(by rw [hw]; exact (by (with_reducible repeat (first | refine blk_drewN ?_ _ | refine blk_drew ?_ | refine blk_alloc ?_ _)); refine blk_far ?_ NB344_353.out _; (with_reducible repeat (first | refine blk_drewN ?_ _ | refine blk_drew ?_ | refine blk_alloc ?_ _)); refine blk_far ?_ NB344_353.out _; (with_reducible repeat (first | refine blk_drewN ?_ _ | refine blk_drew ?_ | refine blk_alloc ?_ _)); refine blk_far ?_ NB344_353.out _; (with_reducible repeat (first | refine blk_drewN ?_ _ | refine blk_drew ?_ | refine blk_alloc ?_ _)); refine blk_far ?_ NB344_353.out _; (with_reducible repeat (first | refine blk_drewN ?_ _ | refine blk_drew ?_ | refine blk_alloc ?_ _)); exact BK344.out))⟩; have n4_ : Aside0 (w34.heap[gb353]? = some (.cells #[.int .u64 t346, .int .u64 t347, .slice Ao33 t348.length co33, .int .i64 t351] 42 (0, 0))) := ⟨(by rw [hw]; exact (by (with_reducible repeat (first | refine blk_drewN ?_ _ | refine blk_drew ?_ | refine blk_alloc ?_ _)); refine blk_put (cs := #[.int .u64 t346, .int .u64 t347, .slice Ao33 t348.length co33, .int .i64 0]) ?_ 3 _ rfl; (with_reducible repeat (first | refine blk_drewN ?_ _ | refine blk_drew ?_ | refine blk_alloc ?_ _)); refine blk_put (cs := #[.int .u64 t346, .int .u64 t347, .slice none 0 0, .int .i64 0]) ?_ 2 _ rfl; (with_reducible repeat (first | refine blk_drewN ?_ _ | refine blk_drew ?_ | refine blk_alloc ?_ _)); refine blk_put (cs := #[.int .u64 t346, .int .u64 0, .slice none 0 0, .int .i64 0]) ?_ 1 _ rfl; (with_reducible repeat (first | refine blk_drewN ?_ _ | refine blk_drew ?_ | refine blk_alloc ?_ _)); refine blk_put (cs := #[.int .u64 0, .int .u64 0, .slice none 0 0, .int .i64 0]) ?_ 0 _ rfl; (with_reducible repeat (first | refine blk_drewN ?_ _ | refine blk_drew ?_ | refine blk_alloc ?_ _)); exact BK353.out))⟩; have n5_ : Aside0 (Below w.heap.size w w34) := ⟨(by rw [hw]; exact (hx_ HB))⟩; clear hw; clear HO350; clear BK342; clear BK343; clear BK344; clear BK353; clear HB; have HO350 := n0_; have BK342 := n1_; have BK343 := n2_; have BK344 := n3_; have BK353 := n4_; have HB := n5_; clear n0_ n1_ n2_ n3_ n4_ n5_; have hcz35_0 : w34.cell? ⟨gb342, 0, none⟩ = some (.slice A0_0 l0_0.length c0_0) := (blk_cell BK342.out 0).trans rfl; have hfz35_0 := blk_frozen BK342.out 0; have hcz36_0 : w34.cell? ⟨gb344, 0, none⟩ = some (.int .u64 a2_0) := (blk_cell BK344.out 0).trans rfl; have hcz36_1 : w34.cell? ⟨gb344, 1, none⟩ = some (.int .u64 a2_1) := (blk_cell BK344.out 1).trans rfl; have hfz36_0 := blk_frozen BK344.out 0; have hfz36_1 := blk_frozen BK344.out 1) | ((with_reducible refine gate_callee (f := 11) rfl ?_); refine goesL_ (some 23) rfl rfl Try.func11 (by kernel_rfl) rfl #[.agg #[.slice A0_0 l0_0.length c0_0], .agg #[.int .u64 a2_0, .int .u64 a2_1]] rfl (by (try simp only [List.map_toArray, List.map_cons, List.map_nil]); first | done | rfl | (simp only [List.length_drop, List.length_take]; rfl)) ?_; (with_reducible refine (ferruleref14_Find.calls k (fun k_ => k_ < w.heap.size) _ _ l0_0 a2_0 a2_1 t354 t355 t356 t359 t360 _ ?side1 A6.out).mono ?_); (case side1 => exact Kd.V_mk HC0_0.out (Kd.F_below (Kd.C_F k42_heap HR0_0.out) (hx_ HB))); rintro e w37 ⟨v357, rfl, ho0, hb⟩; refine ⟨_, rfl, ?_⟩; have n0_ := am_ (Kd.R_below (rx_ HO350) hb); have n1_ := am_ (Kd.V_lower (Kd.V_mono (ok' := fun k_ => some k_ ≠ (.slice Ao33 t348.length co33 : Value).ownBlock ∧ k_ ≠ gb342 ∧ k_ ≠ gb343 ∧ k_ ≠ gb344 ∧ k_ ≠ gb353) ho0 (fun k_ hk_ => ⟨Or.elim hk_ (fun hs_ => fun e_ => Nat.not_le.2 hs_ (Kd.R_base HO350.out k_ e_.symm)) (fun hn_ => (Kd.fresh' (Kd.R_lt (rx_ HO350)) k_ hn_)), Or.elim hk_ (fun hs_ => fun e_ => Nat.not_le.2 hs_ (by rw [e_]; exact GW342.out)) (fun hn_ => (Kd.freshB (g := gb342) (o := .cells #[.slice A0_0 l0_0.length c0_0] 26 (0, 0)) (bx_ BK342) k_ hn_)), Or.elim hk_ (fun hs_ => fun e_ => Nat.not_le.2 hs_ (by rw [e_]; exact GW343.out)) (fun hn_ => (Kd.freshB (g := gb343) (o := .cells #[.slice A1_0 l1_0.length c1_0] 26 (0, 0)) (bx_ BK343) k_ hn_)), Or.elim hk_ (fun hs_ => fun e_ => Nat.not_le.2 hs_ (by rw [e_]; exact GW344.out)) (fun hn_ => (Kd.freshB (g := gb344) (o := .cells #[.int .u64 a2_0, .int .u64 a2_1] 34 (0, 0)) (bx_ BK344) k_ hn_)), Or.elim hk_ (fun hs_ => fun e_ => Nat.not_le.2 hs_ (by rw [e_]; exact GW353.out)) (fun hn_ => (Kd.freshB (g := gb353) (o := .cells #[.int .u64 t346, .int .u64 t347, .slice Ao33 t348.length co33, .int .i64 t351] 42 (0, 0)) (bx_ BK353) k_ hn_))⟩)) (below_size (hx_ HB))); have n2_ := am_ (blk_below (g := gb342) (o := .cells #[.slice A0_0 l0_0.length c0_0] 26 (0, 0)) (bx_ BK342) hb); have n3_ := am_ (blk_below (g := gb343) (o := .cells #[.slice A1_0 l1_0.length c1_0] 26 (0, 0)) (bx_ BK343) hb); have n4_ := am_ (blk_below (g := gb344) (o := .cells #[.int .u64 a2_0, .int .u64 a2_1] 34 (0, 0)) (bx_ BK344) hb); have n5_ := am_ (blk_below (g := gb353) (o := .cells #[.int .u64 t346, .int .u64 t347, .slice Ao33 t348.length co33, .int .i64 t351] 42 (0, 0)) (bx_ BK353) hb); have n6_ := am_ (below_step (hx_ HB) hb); clear HO350; clear BK342; clear BK343; clear BK344; clear BK353; clear HB; have HO350 := n0_; have HO358 := n1_; have BK342 := n2_; have BK343 := n3_; have BK344 := n4_; have BK353 := n5_; have HB := n6_; clear n0_ n1_ n2_ n3_ n4_ n5_ n6_; (try clear hb); (try clear hb2); (try clear hk); (try clear hi); (try clear ho0)) | ((with_reducible refine gate_dst (N := 10) rfl ?_); refine box_event ?hg (N := 10) ?hd (cs := #[.int .u64 0, .int .u64 0, .slice none 0 0, .int .i64 0]) (t := 42) ?hr ?_; (case hd => rfl); (case hg => rfl); (case hr => first | (go_simp; done) | (go_simp; rfl)); intro gb361 hg w38 hbox hb; have n0_ := am_ (Kd.R_below (rx_ HO350) hb); have n1_ := am_ (Kd.V_below (Kd.V_elderB (vx_ HO358) gb361 (Nat.le_of_eq hg.symm)) hb); have n2_ := am_ (blk_below (g := gb342) (o := .cells #[.slice A0_0 l0_0.length c0_0] 26 (0, 0)) (bx_ BK342) hb); have n3_ := am_ (blk_below (g := gb343) (o := .cells #[.slice A1_0 l1_0.length c1_0] 26 (0, 0)) (bx_ BK343) hb); have n4_ := am_ (blk_below (g := gb344) (o := .cells #[.int .u64 a2_0, .int .u64 a2_1] 34 (0, 0)) (bx_ BK344) hb); have n5_ := am_ (blk_below (g := gb353) (o := .cells #[.int .u64 t346, .int .u64 t347, .slice Ao33 t348.length co33, .int .i64 t351] 42 (0, 0)) (bx_ BK353) hb); have n6_ := am_ (below_step (hx_ HB) hb); have n7_ := am_ (hbox); have n8_ := am_ ((by rw [hg]; exact (below_size (hx_ HB)) : w.heap.size ≤ gb361)); have n9_ := am_ ((by rw [hg]; exact (below_size (hx_ HB)) : w.heap.size ≤ gb361)); have n10_ := am_ ((by rw [hg]; exact Nat.ne_of_lt (blk_lt (g := gb342) (o := .cells #[.slice A0_0 l0_0.length c0_0] 26 (0, 0)) (bx_ BK342)) : gb342 ≠ gb361)); have n11_ := am_ ((by rw [hg]; exact Nat.ne_of_gt (blk_lt (g := gb342) (o := .cells #[.slice A0_0 l0_0.length c0_0] 26 (0, 0)) (bx_ BK342)) : gb361 ≠ gb342)); have n12_ := am_ ((by rw [hg]; exact Nat.ne_of_lt (blk_lt (g := gb343) (o := .cells #[.slice A1_0 l1_0.length c1_0] 26 (0, 0)) (bx_ BK343)) : gb343 ≠ gb361)); have n13_ := am_ ((by rw [hg]; exact Nat.ne_of_gt (blk_lt (g := gb343) (o := .cells #[.slice A1_0 l1_0.length c1_0] 26 (0, 0)) (bx_ BK343)) : gb361 ≠ gb343)); have n14_ := am_ ((by rw [hg]; exact Nat.ne_of_lt (blk_lt (g := gb344) (o := .cells #[.int .u64 a2_0, .int .u64 a2_1] 34 (0, 0)) (bx_ BK344)) : gb344 ≠ gb361)); have n15_ := am_ ((by rw [hg]; exact Nat.ne_of_gt (blk_lt (g := gb344) (o := .cells #[.int .u64 a2_0, .int .u64 a2_1] 34 (0, 0)) (bx_ BK344)) : gb361 ≠ gb344)); have n16_ := am_ ((by rw [hg]; exact Nat.ne_of_lt (blk_lt (g := gb353) (o := .cells #[.int .u64 t346, .int .u64 t347, .slice Ao33 t348.length co33, .int .i64 t351] 42 (0, 0)) (bx_ BK353)) : gb353 ≠ gb361)); have n17_ := am_ ((by rw [hg]; exact Nat.ne_of_gt (blk_lt (g := gb353) (o := .cells #[.int .u64 t346, .int .u64 t347, .slice Ao33 t348.length co33, .int .i64 t351] 42 (0, 0)) (bx_ BK353)) : gb361 ≠ gb353)); clear HO350; clear HO358; clear BK342; clear BK343; clear BK344; clear BK353; clear HB; have HO350 := n0_; have HO358 := n1_; have BK342 := n2_; have BK343 := n3_; have BK344 := n4_; have BK353 := n5_; have HB := n6_; have BK361 := n7_; have GW361 := n8_; have GE361 := n9_; have NB342_361 := n10_; have NB361_342 := n11_; have NB343_361 := n12_; have NB361_343 := n13_; have NB344_361 := n14_; have NB361_344 := n15_; have NB353_361 := n16_; have NB361_353 := n17_; clear n0_ n1_ n2_ n3_ n4_ n5_ n6_ n7_ n8_ n9_ n10_ n11_ n12_ n13_ n14_ n15_ n16_ n17_; clear hb hbox hg; have hnb39 := NB361_342.out; have hnc39 := NB342_361.out; have hnb40 := NB361_343.out; have hnc40 := NB343_361.out; have hnb41 := NB361_344.out; have hnc41 := NB344_361.out; have hnb42 := NB361_353.out; have hnc42 := NB353_361.out; have hcz43_0 : w38.cell? ⟨gb361, 0, none⟩ = some (.int .u64 0) := (blk_cell BK361.out 0).trans rfl; have hcz43_1 : w38.cell? ⟨gb361, 1, none⟩ = some (.int .u64 0) := (blk_cell BK361.out 1).trans rfl; have hcz43_2 : w38.cell? ⟨gb361, 2, none⟩ = some (.slice none 0 0) := (blk_cell BK361.out 2).trans rfl; have hcz43_3 : w38.cell? ⟨gb361, 3, none⟩ = some (.int .i64 0) := (blk_cell BK361.out 3).trans rfl; have hfz43_0 := blk_frozen BK361.out 0; have hfz43_1 := blk_frozen BK361.out 1; have hfz43_2 := blk_frozen BK361.out 2; have hfz43_3 := blk_frozen BK361.out 3; obtain ⟨Ao44, co44, eo44⟩ := Kd.V_slice HO358.out; subst eo44; have hcz45_0 : w38.cell? ⟨gb353, 0, none⟩ = some (.int .u64 t346) := (blk_cell BK353.out 0).trans rfl; have hcz45_1 : w38.cell? ⟨gb353, 1, none⟩ = some (.int .u64 t347) := (blk_cell BK353.out 1).trans rfl; have hcz45_2 : w38.cell? ⟨gb353, 2, none⟩ = some (.slice Ao33 t348.length co33) := (blk_cell BK353.out 2).trans rfl; have hcz45_3 : w38.cell? ⟨gb353, 3, none⟩ = some (.int .i64 t351) := (blk_cell BK353.out 3).trans rfl; have hfz45_0 := blk_frozen BK353.out 0; have hfz45_1 := blk_frozen BK353.out 1; have hfz45_2 := blk_frozen BK353.out 2; have hfz45_3 := blk_frozen BK353.out 3) | ((with_reducible refine gate_callee (f := 13) rfl ?_); refine goesL_ (some 30) rfl rfl Try.func13 (by kernel_rfl) rfl #[.slice Ao33 t348.length co33, .slice Ao44 t356.length co44] rfl (by (try simp only [List.map_toArray, List.map_cons, List.map_nil]); first | done | rfl | (simp only [List.length_drop, List.length_take]; rfl)) ?_; (with_reducible refine (ferruleref01_Same.calls k _ _ t348 _ _ t356 true _ ?side1 ?side2 ?side3 ?side4 A7.out).mono ?_); (case side1 => refine (Kd.R_reads' (e := 28) (base := w.heap.size) (ok := fun k_ => True) (n := t348.length) (c := co33) ?_).2.2; exact (by (with_reducible repeat (first | apply Kd.R_alloc | apply Kd.R_drewN | apply Kd.R_drew)); exact (Kd.R_mono (Kd.R_far (p := ⟨gb361, 3, none⟩) (Kd.R_far (p := ⟨gb361, 2, none⟩) (Kd.R_far (p := ⟨gb361, 1, none⟩) (Kd.R_far (p := ⟨gb361, 0, none⟩) (Kd.R_types HO350.out BK361.out (by decide)) (fun _ hk => hk.2) (.int .u64 t354)) (fun _ hk => hk.2) (.int .u64 t355)) (fun _ hk => hk.2) (.slice Ao44 t356.length co44)) (fun _ hk => hk.2) (.int .i64 t359)) (fun _ h_ => h_.1)))); (case side2 => exact (Kd.R_reads' HO350.out).2.1); (case side3 => refine (Kd.V_reads' (e := 28) (base := w.heap.size) (ok := fun k_ => ((some k_ ≠ (.slice Ao33 t348.length co33 : Value).ownBlock ∧ (k_ ≠ gb342 ∧ (k_ ≠ gb343 ∧ (k_ ≠ gb344 ∧ k_ ≠ gb353)))) ∧ k_ ≠ gb361)) (n := t356.length) (c := co44) ?_).2.2; exact (by (with_reducible repeat (first | apply Kd.V_alloc | apply Kd.V_drewN | apply Kd.V_drew)); exact (Kd.V_mono (Kd.V_far (p := ⟨gb361, 3, none⟩) (Kd.V_far (p := ⟨gb361, 2, none⟩) (Kd.V_far (p := ⟨gb361, 1, none⟩) (Kd.V_far (p := ⟨gb361, 0, none⟩) (Kd.V_mono HO358.out (fun k_ hk => (⟨hk, hk.2⟩ : _ ∧ k_ ≠ gb361))) (fun _ hk => hk.2) (.int .u64 t354)) (fun _ hk => hk.2) (.int .u64 t355)) (fun _ hk => hk.2) (.slice Ao44 t356.length co44)) (fun _ hk => hk.2) (.int .i64 t359)) (fun _ h_ => h_.1)))); (case side4 => exact (Kd.V_reads' HO358.out).2.1); rintro e w' ⟨rfl, ⟨nd, rfl⟩⟩; refine ⟨_, rfl, ?_⟩))
       have n0_ : Aside0 (Kd.R (Kd.int .u64) 28 ((((w38.setCell ⟨gb361, 0, none⟩ (.int .u64 t354)).setCell ⟨gb361, 1, none⟩ (.int .u64 t355)).setCell ⟨gb361, 2, none⟩ (.slice Ao44 t356.length co44)).setCell ⟨gb361, 3, none⟩ (.int .i64 t359)) w.heap.size (fun _ => True) (.slice Ao33 t348.length co33) t348) := ⟨by (with_reducible repeat (first | apply Kd.R_alloc | apply Kd.R_drewN | apply Kd.R_drew)); exact Kd.R_mono (Kd.R_far (p := ⟨gb361, 3, none⟩) (Kd.R_far (p := ⟨gb361, 2, none⟩) (Kd.R_far (p := ⟨gb361, 1, none⟩) (Kd.R_far (p := ⟨gb361, 0, none⟩) (Kd.R_types HO350.out BK361.out (by decide)) (fun _ hk => hk.2) (.int .u64 t354)) (fun _ hk => hk.2) (.int .u64 t355)) (fun _ hk => hk.2) (.slice Ao44 t356.length co44)) (fun _ hk => hk.2) (.int .i64 t359)) (fun _ hk => trivial)⟩
       have n1_ : Aside0 (Kd.V (Kd.int .u64) 28 ((((w38.setCell ⟨gb361, 0, none⟩ (.int .u64 t354)).setCell ⟨gb361, 1, none⟩ (.int .u64 t355)).setCell ⟨gb361, 2, none⟩ (.slice Ao44 t356.length co44)).setCell ⟨gb361, 3, none⟩ (.int .i64 t359)) w.heap.size (fun k_ => some k_ ≠ (.slice Ao33 t348.length co33 : Value).ownBlock ∧ k_ ≠ gb342 ∧ k_ ≠ gb343 ∧ k_ ≠ gb344 ∧ k_ ≠ gb353 ∧ k_ ≠ gb361) (.slice Ao44 t356.length co44) t356) := ⟨by (with_reducible repeat (first | apply Kd.V_alloc | apply Kd.V_drewN | apply Kd.V_drew)); exact Kd.V_mono (Kd.V_far (p := ⟨gb361, 3, none⟩) (Kd.V_far (p := ⟨gb361, 2, none⟩) (Kd.V_far (p := ⟨gb361, 1, none⟩) (Kd.V_far (p := ⟨gb361, 0, none⟩) (Kd.V_mono HO358.out (fun k_ hk => (⟨hk, hk.2⟩ : _ ∧ k_ ≠ gb361))) (fun _ hk => hk.2) (.int .u64 t354)) (fun _ hk => hk.2) (.int .u64 t355)) (fun _ hk => hk.2) (.slice Ao44 t356.length co44)) (fun _ hk => hk.2) (.int .i64 t359)) (fun _ hk => ⟨hk.1.1.1, ⟨hk.1.1.2.1, ⟨hk.1.1.2.2.1, ⟨hk.1.1.2.2.2.1, ⟨hk.1.1.2.2.2.2, hk.1.2⟩⟩⟩⟩⟩)⟩
       have n2_ : Aside0 (((((w38.setCell ⟨gb361, 0, none⟩ (.int .u64 t354)).setCell ⟨gb361, 1, none⟩ (.int .u64 t355)).setCell ⟨gb361, 2, none⟩ (.slice Ao44 t356.length co44)).setCell ⟨gb361, 3, none⟩ (.int .i64 t359)).heap[gb342]? = some (.cells #[.slice A0_0 l0_0.length c0_0] 26 (0, 0))) := ⟨by (with_reducible repeat (first | refine blk_drewN ?_ _ | refine blk_drew ?_ | refine blk_alloc ?_ _)); refine blk_far ?_ NB342_361.out _; (with_reducible repeat (first | refine blk_drewN ?_ _ | refine blk_drew ?_ | refine blk_alloc ?_ _)); refine blk_far ?_ NB342_361.out _; (with_reducible repeat (first | refine blk_drewN ?_ _ | refine blk_drew ?_ | refine blk_alloc ?_ _)); refine blk_far ?_ NB342_361.out _; (with_reducible repeat (first | refine blk_drewN ?_ _ | refine blk_drew ?_ | refine blk_alloc ?_ _)); refine blk_far ?_ NB342_361.out _; (with_reducible repeat (first | refine blk_drewN ?_ _ | refine blk_drew ?_ | refine blk_alloc ?_ _)); exact BK342.out⟩
       have n3_ : Aside0 (((((w38.setCell ⟨gb361, 0, none⟩ (.int .u64 t354)).setCell ⟨gb361, 1, none⟩ (.int .u64 t355)).setCell ⟨gb361, 2, none⟩ (.slice Ao44 t356.length co44)).setCell ⟨gb361, 3, none⟩ (.int .i64 t359)).heap[gb343]? = some (.cells #[.slice A1_0 l1_0.length c1_0] 26 (0, 0))) := ⟨by (with_reducible repeat (first | refine blk_drewN ?_ _ | refine blk_drew ?_ | refine blk_alloc ?_ _)); refine blk_far ?_ NB343_361.out _; (with_reducible repeat (first | refine blk_drewN ?_ _ | refine blk_drew ?_ | refine blk_alloc ?_ _)); refine blk_far ?_ NB343_361.out _; (with_reducible repeat (first | refine blk_drewN ?_ _ | refine blk_drew ?_ | refine blk_alloc ?_ _)); refine blk_far ?_ NB343_361.out _; (with_reducible repeat (first | refine blk_drewN ?_ _ | refine blk_drew ?_ | refine blk_alloc ?_ _)); refine blk_far ?_ NB343_361.out _; (with_reducible repeat (first | refine blk_drewN ?_ _ | refine blk_drew ?_ | refine blk_alloc ?_ _)); exact BK343.out⟩
       have n4_ : Aside0 (((((w38.setCell ⟨gb361, 0, none⟩ (.int .u64 t354)).setCell ⟨gb361, 1, none⟩ (.int .u64 t355)).setCell ⟨gb361, 2, none⟩ (.slice Ao44 t356.length co44)).setCell ⟨gb361, 3, none⟩ (.int .i64 t359)).heap[gb344]? = some (.cells #[.int .u64 a2_0, .int .u64 a2_1] 34 (0, 0))) := ⟨by (with_reducible repeat (first | refine blk_drewN ?_ _ | refine blk_drew ?_ | refine blk_alloc ?_ _)); refine blk_far ?_ NB344_361.out _; (with_reducible repeat (first | refine blk_drewN ?_ _ | refine blk_drew ?_ | refine blk_alloc ?_ _)); refine blk_far ?_ NB344_361.out _; (with_reducible repeat (first | refine blk_drewN ?_ _ | refine blk_drew ?_ | refine blk_alloc ?_ _)); refine blk_far ?_ NB344_361.out _; (with_reducible repeat (first | refine blk_drewN ?_ _ | refine blk_drew ?_ | refine blk_alloc ?_ _)); refine blk_far ?_ NB344_361.out _; (with_reducible repeat (first | refine blk_drewN ?_ _ | refine blk_drew ?_ | refine blk_alloc ?_ _)); exact BK344.out⟩
       have n5_ : Aside0 (((((w38.setCell ⟨gb361, 0, none⟩ (.int .u64 t354)).setCell ⟨gb361, 1, none⟩ (.int .u64 t355)).setCell ⟨gb361, 2, none⟩ (.slice Ao44 t356.length co44)).setCell ⟨gb361, 3, none⟩ (.int .i64 t359)).heap[gb353]? = some (.cells #[.int .u64 t346, .int .u64 t347, .slice Ao33 t348.length co33, .int .i64 t351] 42 (0, 0))) := ⟨by (with_reducible repeat (first | refine blk_drewN ?_ _ | refine blk_drew ?_ | refine blk_alloc ?_ _)); refine blk_far ?_ NB353_361.out _; (with_reducible repeat (first | refine blk_drewN ?_ _ | refine blk_drew ?_ | refine blk_alloc ?_ _)); refine blk_far ?_ NB353_361.out _; (with_reducible repeat (first | refine blk_drewN ?_ _ | refine blk_drew ?_ | refine blk_alloc ?_ _)); refine blk_far ?_ NB353_361.out _; (with_reducible repeat (first | refine blk_drewN ?_ _ | refine blk_drew ?_ | refine blk_alloc ?_ _)); refine blk_far ?_ NB353_361.out _; (with_reducible repeat (first | refine blk_drewN ?_ _ | refine blk_drew ?_ | refine blk_alloc ?_ _)); exact BK353.out⟩
       have n6_ : Aside0 (((((w38.setCell ⟨gb361, 0, none⟩ (.int .u64 t354)).setCell ⟨gb361, 1, none⟩ (.int .u64 t355)).setCell ⟨gb361, 2, none⟩ (.slice Ao44 t356.length co44)).setCell ⟨gb361, 3, none⟩ (.int .i64 t359)).heap[gb361]? = some (.cells #[.int .u64 t354, .int .u64 t355, .slice Ao44 t356.length co44, .int .i64 t359] 42 (0, 0))) := ⟨by (with_reducible repeat (first | refine blk_drewN ?_ _ | refine blk_drew ?_ | refine blk_alloc ?_ _)); refine blk_put (cs := #[.int .u64 t354, .int .u64 t355, .slice Ao44 t356.length co44, .int .i64 0]) ?_ 3 _ rfl; (with_reducible repeat (first | refine blk_drewN ?_ _ | refine blk_drew ?_ | refine blk_alloc ?_ _)); refine blk_put (cs := #[.int .u64 t354, .int .u64 t355, .slice none 0 0, .int .i64 0]) ?_ 2 _ rfl; (with_reducible repeat (first | refine blk_drewN ?_ _ | refine blk_drew ?_ | refine blk_alloc ?_ _)); refine blk_put (cs := #[.int .u64 t354, .int .u64 0, .slice none 0 0, .int .i64 0]) ?_ 1 _ rfl; (with_reducible repeat (first | refine blk_drewN ?_ _ | refine blk_drew ?_ | refine blk_alloc ?_ _)); refine blk_put (cs := #[.int .u64 0, .int .u64 0, .slice none 0 0, .int .i64 0]) ?_ 0 _ rfl; (with_reducible repeat (first | refine blk_drewN ?_ _ | refine blk_drew ?_ | refine blk_alloc ?_ _)); exact BK361.out⟩
       have n7_ : Aside0 (Below w.heap.size w ((((w38.setCell ⟨gb361, 0, none⟩ (.int .u64 t354)).setCell ⟨gb361, 1, none⟩ (.int .u64 t355)).setCell ⟨gb361, 2, none⟩ (.slice Ao44 t356.length co44)).setCell ⟨gb361, 3, none⟩ (.int .i64 t359))) := ⟨hx_ HB⟩
       (try clear HO350)
       (try clear HO358)
       (try clear BK342)
       (try clear BK343)
       (try clear BK344)
       (try clear BK353)
       (try clear BK361)
       (try clear HB)
       generalize ((((w38.setCell ⟨gb361, 0, none⟩ (.int .u64 t354)).setCell ⟨gb361, 1, none⟩ (.int .u64 t355)).setCell ⟨gb361, 2, none⟩ (.slice Ao44 t356.length co44)).setCell ⟨gb361, 3, none⟩ (.int .i64 t359)) = w46 at n0_ n1_ n2_ n3_ n4_ n5_ n6_ n7_ ⊢
       have HO350 := n0_
       have HO358 := n1_
       have BK342 := n2_
       have BK343 := n3_
       have BK344 := n4_
       have BK353 := n5_
       have BK361 := n6_
       have HB := n7_
       clear n0_ n1_ n2_ n3_ n4_ n5_ n6_ n7_
       (try (rw [drewN_self w46]; generalize hq_ : World.drewN w46 _ = w46; have n0_ : Aside0 (Kd.R (Kd.int .u64) 28 w46 w.heap.size (fun _ => True) (.slice Ao33 t348.length co33) t348) := ⟨by rw [← hq_]; exact (rx_ HO350)⟩; have n1_ : Aside0 (Kd.V (Kd.int .u64) 28 w46 w.heap.size (fun k_ => some k_ ≠ (.slice Ao33 t348.length co33 : Value).ownBlock ∧ k_ ≠ gb342 ∧ k_ ≠ gb343 ∧ k_ ≠ gb344 ∧ k_ ≠ gb353 ∧ k_ ≠ gb361) (.slice Ao44 t356.length co44) t356) := ⟨by rw [← hq_]; exact (vx_ HO358)⟩; have n2_ : Aside0 (w46.heap[gb342]? = some (.cells #[.slice A0_0 l0_0.length c0_0] 26 (0, 0))) := ⟨by rw [← hq_]; exact (bx_ BK342)⟩; have n3_ : Aside0 (w46.heap[gb343]? = some (.cells #[.slice A1_0 l1_0.length c1_0] 26 (0, 0))) := ⟨by rw [← hq_]; exact (bx_ BK343)⟩; have n4_ : Aside0 (w46.heap[gb344]? = some (.cells #[.int .u64 a2_0, .int .u64 a2_1] 34 (0, 0))) := ⟨by rw [← hq_]; exact (bx_ BK344)⟩; have n5_ : Aside0 (w46.heap[gb353]? = some (.cells #[.int .u64 t346, .int .u64 t347, .slice Ao33 t348.length co33, .int .i64 t351] 42 (0, 0))) := ⟨by rw [← hq_]; exact (bx_ BK353)⟩; have n6_ : Aside0 (w46.heap[gb361]? = some (.cells #[.int .u64 t354, .int .u64 t355, .slice Ao44 t356.length co44, .int .i64 t359] 42 (0, 0))) := ⟨by rw [← hq_]; exact (bx_ BK361)⟩; have n7_ : Aside0 (Below w.heap.size w w46) := ⟨by rw [← hq_]; exact (hx_ HB)⟩; clear HO350 HO358 BK342 BK343 BK344 BK353 BK361 HB hq_; have HO350 := n0_; have HO358 := n1_; have BK342 := n2_; have BK343 := n3_; have BK344 := n4_; have BK353 := n5_; have BK361 := n6_; have HB := n7_; clear n0_ n1_ n2_ n3_ n4_ n5_ n6_ n7_))
       have n0_ := am_ (Kd.R_drew HO350.out)
       have n1_ := am_ (Kd.V_drew HO358.out)
       have n2_ := am_ (blk_drew BK342.out)
       have n3_ := am_ (blk_drew BK343.out)
       have n4_ := am_ (blk_drew BK344.out)
       have n5_ := am_ (blk_drew BK353.out)
       have n6_ := am_ (blk_drew BK361.out)
       have n7_ := am_ (below_drew1 HB.out)
       clear HO350
       clear HO358
       clear BK342
       clear BK343
       clear BK344
       clear BK353
       clear BK361
       clear HB
       have HO350 := n0_
       have HO358 := n1_
       have BK342 := n2_
       have BK343 := n3_
       have BK344 := n4_
       have BK353 := n5_
       have BK361 := n6_
       have HB := n7_
       clear n0_ n1_ n2_ n3_ n4_ n5_ n6_ n7_
       refine start_ (n := 40) (S := fun w' => w'.cell? ⟨gb353, 0, none⟩ = some (.int .u64 t346) ∧ w'.cell? ⟨gb353, 1, none⟩ = some (.int .u64 t347) ∧ w'.cell? ⟨gb353, 2, none⟩ = some (.slice Ao33 t348.length co33) ∧ w'.cell? ⟨gb353, 3, none⟩ = some (.int .i64 t351) ∧ w'.cell? ⟨gb361, 0, none⟩ = some (.int .u64 t354) ∧ w'.cell? ⟨gb361, 1, none⟩ = some (.int .u64 t355) ∧ w'.cell? ⟨gb361, 2, none⟩ = some (.slice Ao44 t356.length co44) ∧ w'.cell? ⟨gb361, 3, none⟩ = some (.int .i64 t359) ∧ w'.cell? ⟨gb342, 0, none⟩ = some (.slice A0_0 l0_0.length c0_0) ∧ w'.cell? ⟨gb343, 0, none⟩ = some (.slice A1_0 l1_0.length c1_0)) (ds := []) bN0_ (by kernel_rfl) rfl rfl ⟨(blk_cell BK353.out 0).trans rfl, (blk_cell BK353.out 1).trans rfl, (blk_cell BK353.out 2).trans rfl, (blk_cell BK353.out 3).trans rfl, (blk_cell BK361.out 0).trans rfl, (blk_cell BK361.out 1).trans rfl, (blk_cell BK361.out 2).trans rfl, (blk_cell BK361.out 3).trans rfl, (blk_cell BK342.out 0).trans rfl, (blk_cell BK343.out 0).trans rfl⟩ (fun hHeld => ?_); refine with_tabW ferrulelaw14_CoordFinds.tab5 ferrulelaw14_CoordFinds.bits5 (fun HT_ HW_ => ?_)
       generalize w46.drew = w47 at HO350 HO358 BK342 BK343 BK344 BK353 BK361 HB hHeld ⊢
       refine pure_ (i := 0) (N := some 31) (v := ?_) (a' := ?_) bN1_ rfl rfl (any_of HT_.out (by kernel_rfl)) (fun _ _ _ h => h) (Or.inl ⟨by rfl, ?_⟩) ?_ ?_; rotate_left; (intro w'; go_simp; with_reducible rfl); rotate_left; (simp only [Act.put, List.setIfInBounds_toArray, List.set_cons_zero, List.set_cons_succ, i64_w, i32_w]; rfl)
       refine pure_ (i := 1) (N := some 32) (v := ?_) (a' := ?_) bN2_ rfl rfl (any_of HT_.out (by kernel_rfl)) (fun _ _ _ h => h) (Or.inl ⟨by rfl, ?_⟩) ?_ ?_; rotate_left; (intro w'; go_simp; with_reducible rfl); rotate_left; (simp only [Act.put, List.setIfInBounds_toArray, List.set_cons_zero, List.set_cons_succ, i64_w, i32_w]; rfl)
       refine pure_ (i := 2) (N := some 33) (v := ?_) (a' := ?_) bN3_ rfl rfl (any_of HT_.out (by kernel_rfl)) (fun _ _ _ h => h) (Or.inl ⟨by rfl, ?_⟩) ?_ ?_; rotate_left; (intro w'; go_simp; with_reducible rfl); rotate_left; (simp only [Act.put, List.setIfInBounds_toArray, List.set_cons_zero, List.set_cons_succ, i64_w, i32_w]; rfl)
       refine pure_ (i := 3) (N := some 34) (v := ?_) (a' := ?_) bN4_ rfl rfl (any_of HT_.out (by kernel_rfl)) (fun _ _ _ h => h) (Or.inl ⟨by rfl, ?_⟩) ?_ ?_; rotate_left; (intro w'; go_simp; with_reducible rfl); rotate_left; (simp only [Act.put, List.setIfInBounds_toArray, List.set_cons_zero, List.set_cons_succ, i64_w, i32_w]; rfl)
       refine pure_ (i := 4) (N := some 35) (v := ?_) (a' := ?_) bN5_ rfl rfl (any_of HT_.out (by kernel_rfl)) (fun _ _ _ h => h) (Or.inl ⟨by rfl, ?_⟩) ?_ ?_; rotate_left; (intro w'; go_simp; with_reducible rfl); rotate_left; (simp only [Act.put, List.setIfInBounds_toArray, List.set_cons_zero, List.set_cons_succ, i64_w, i32_w]; rfl)
       refine pure_ (i := 5) (N := some 36) (v := ?_) (a' := ?_) bN6_ rfl rfl (any_of HT_.out (by kernel_rfl)) (fun _ _ _ h => h) (Or.inl ⟨by rfl, ?_⟩) ?_ ?_; rotate_left; (intro w'; go_simp; with_reducible rfl); rotate_left; (simp only [Act.put, List.setIfInBounds_toArray, List.set_cons_zero, List.set_cons_succ, i64_w, i32_w]; rfl)
       refine pure_ (i := 6) (N := some 37) (v := ?_) (a' := ?_) bN7_ rfl rfl (any_of HT_.out (by kernel_rfl)) (fun _ _ _ h => h) (Or.inl ⟨by rfl, ?_⟩) ?_ ?_; rotate_left; (intro w'; go_simp; with_reducible rfl); rotate_left; (simp only [Act.put, List.setIfInBounds_toArray, List.set_cons_zero, List.set_cons_succ, i64_w, i32_w]; rfl)
       refine pure_ (i := 7) (N := some 38) (v := ?_) (a' := ?_) bN8_ rfl rfl (any_of HT_.out (by kernel_rfl)) (fun _ _ _ h => h) (Or.inl ⟨by rfl, ?_⟩) ?_ ?_; rotate_left; (intro w'; go_simp; with_reducible rfl); rotate_left; (simp only [Act.put, List.setIfInBounds_toArray, List.set_cons_zero, List.set_cons_succ, i64_w, i32_w]; rfl)
       refine pure_ (i := 9) (N := some 40) (v := ?_) (a' := ?_) bN9_ rfl rfl (any_of HT_.out (by kernel_rfl)) (fun _ _ _ h => h) (Or.inl ⟨by rfl, ?_⟩) ?_ ?_; rotate_left; (intro w'; go_simp; with_reducible rfl); rotate_left; (simp only [Act.put, List.setIfInBounds_toArray, List.set_cons_zero, List.set_cons_succ, i64_w, i32_w]; rfl)
       refine take_ (i := 8) (N := some 39) (v := ?_) (a' := ?_) bN10_ rfl rfl (take_ofW HT_.out HW_.out (by kernel_rfl)) (fun _ _ _ h => h) (Or.inl ⟨by rfl, ?_⟩) hHeld ?_ ?_; rotate_left; (rintro w' ⟨s0, s1, s2, s3, s4, s5, s6, s7, s8, s9⟩; go_simp; with_reducible rfl); rotate_left; (simp only [Act.put, List.setIfInBounds_toArray, List.set_cons_zero, List.set_cons_succ, i64_w, i32_w]; rfl)
       refine take_ (i := 10) (N := some 41) (v := ?_) (a' := ?_) bN11_ rfl rfl (take_ofW HT_.out HW_.out (by kernel_rfl)) (fun _ _ _ h => h) (Or.inl ⟨by rfl, ?_⟩) hHeld ?_ ?_; rotate_left; (rintro w' ⟨s0, s1, s2, s3, s4, s5, s6, s7, s8, s9⟩; go_simp; with_reducible rfl); rotate_left; (simp only [Act.put, List.setIfInBounds_toArray, List.set_cons_zero, List.set_cons_succ, i64_w, i32_w]; rfl)
       refine pure_ (i := 11) (N := some 42) (v := ?_) (a' := ?_) bN12_ rfl rfl (any_of HT_.out (by kernel_rfl)) (fun _ _ _ h => h) (Or.inl ⟨by rfl, ?_⟩) ?_ ?_; rotate_left; (intro w'; go_simp; with_reducible rfl); rotate_left; (simp only [Act.put, List.setIfInBounds_toArray, List.set_cons_zero, List.set_cons_succ, i64_w, i32_w]; rfl)
       refine pure_ (i := 12) (N := some 43) (v := ?_) (a' := ?_) bN13_ rfl rfl (any_of HT_.out (by kernel_rfl)) (fun _ _ _ h => h) (Or.inl ⟨by rfl, ?_⟩) ?_ ?_; rotate_left; (intro w'; go_simp; with_reducible rfl); rotate_left; (simp only [Act.put, List.setIfInBounds_toArray, List.set_cons_zero, List.set_cons_succ, i64_w, i32_w]; rfl)
       refine pure_ (i := 13) (N := some 44) (v := ?_) (a' := ?_) bN14_ rfl rfl (any_of HT_.out (by kernel_rfl)) (fun _ _ _ h => h) (Or.inl ⟨by rfl, ?_⟩) ?_ ?_; rotate_left; (intro w'; go_simp; with_reducible rfl); rotate_left; (simp only [Act.put, List.setIfInBounds_toArray, List.set_cons_zero, List.set_cons_succ, i64_w, i32_w]; rfl)
       refine pure_ (i := 14) (N := some 45) (v := ?_) (a' := ?_) bN15_ rfl rfl (any_of HT_.out (by kernel_rfl)) (fun _ _ _ h => h) (Or.inl ⟨by rfl, ?_⟩) ?_ ?_; rotate_left; (intro w'; go_simp; with_reducible rfl); rotate_left; (simp only [Act.put, List.setIfInBounds_toArray, List.set_cons_zero, List.set_cons_succ, i64_w, i32_w]; rfl)
       refine pure_ (i := 16) (N := some 47) (v := ?_) (a' := ?_) bN16_ rfl rfl (any_of HT_.out (by kernel_rfl)) (fun _ _ _ h => h) (Or.inl ⟨by rfl, ?_⟩) ?_ ?_; rotate_left; (intro w'; go_simp; with_reducible rfl); rotate_left; (simp only [Act.put, List.setIfInBounds_toArray, List.set_cons_zero, List.set_cons_succ, i64_w, i32_w]; rfl)
       refine take_ (i := 15) (N := some 46) (v := ?_) (a' := ?_) bN17_ rfl rfl (take_ofW HT_.out HW_.out (by kernel_rfl)) (fun _ _ _ h => h) (Or.inl ⟨by rfl, ?_⟩) hHeld ?_ ?_; rotate_left; (rintro w' ⟨s0, s1, s2, s3, s4, s5, s6, s7, s8, s9⟩; go_simp; with_reducible rfl); rotate_left; (simp only [Act.put, List.setIfInBounds_toArray, List.set_cons_zero, List.set_cons_succ, i64_w, i32_w]; rfl)
       refine take_ (i := 17) (N := some 48) (v := ?_) (a' := ?_) bN18_ rfl rfl (take_ofW HT_.out HW_.out (by kernel_rfl)) (fun _ _ _ h => h) (Or.inl ⟨by rfl, ?_⟩) hHeld ?_ ?_; rotate_left; (rintro w' ⟨s0, s1, s2, s3, s4, s5, s6, s7, s8, s9⟩; go_simp; with_reducible rfl); rotate_left; (simp only [Act.put, List.setIfInBounds_toArray, List.set_cons_zero, List.set_cons_succ, i64_w, i32_w]; rfl)
       refine pure_ (i := 18) (N := some 49) (v := ?_) (a' := ?_) bN19_ rfl rfl (any_of HT_.out (by kernel_rfl)) (fun _ _ _ h => h) (Or.inl ⟨by rfl, ?_⟩) ?_ ?_; rotate_left; (intro w'; go_simp; with_reducible rfl); rotate_left; (simp only [Act.put, List.setIfInBounds_toArray, List.set_cons_zero, List.set_cons_succ, i64_w, i32_w]; rfl)
       refine pure_ (i := 19) (N := some 50) (v := ?_) (a' := ?_) bN20_ rfl rfl (any_of HT_.out (by kernel_rfl)) (fun _ _ _ h => h) (Or.inl ⟨by rfl, ?_⟩) ?_ ?_; rotate_left; (intro w'; go_simp; with_reducible rfl); rotate_left; (simp only [Act.put, List.setIfInBounds_toArray, List.set_cons_zero, List.set_cons_succ, i64_w, i32_w]; rfl)
       refine pure_ (i := 20) (N := some 51) (v := ?_) (a' := ?_) bN21_ rfl rfl (any_of HT_.out (by kernel_rfl)) (fun _ _ _ h => h) (Or.inl ⟨by rfl, ?_⟩) ?_ ?_; rotate_left; (intro w'; go_simp; with_reducible rfl); rotate_left; (simp only [Act.put, List.setIfInBounds_toArray, List.set_cons_zero, List.set_cons_succ, i64_w, i32_w]; rfl)
       refine pure_ (i := 21) (N := some 52) (v := ?_) (a' := ?_) bN22_ rfl rfl (any_of HT_.out (by kernel_rfl)) (fun _ _ _ h => h) (Or.inl ⟨by rfl, ?_⟩) ?_ ?_; rotate_left; (intro w'; go_simp; with_reducible rfl); rotate_left; (simp only [Act.put, List.setIfInBounds_toArray, List.set_cons_zero, List.set_cons_succ, i64_w, i32_w]; rfl)
       refine pure_ (i := 22) (N := some 53) (v := ?_) (a' := ?_) bN23_ rfl rfl (any_of HT_.out (by kernel_rfl)) (fun _ _ _ h => h) (Or.inl ⟨by rfl, ?_⟩) ?_ ?_; rotate_left; (intro w'; go_simp; with_reducible rfl); rotate_left; (simp only [Act.put, List.setIfInBounds_toArray, List.set_cons_zero, List.set_cons_succ, i64_w, i32_w]; rfl)
       refine pure_ (i := 23) (N := some 54) (v := ?_) (a' := ?_) bN24_ rfl rfl (any_of HT_.out (by kernel_rfl)) (fun _ _ _ h => h) (Or.inl ⟨by rfl, ?_⟩) ?_ ?_; rotate_left; (intro w'; go_simp; with_reducible rfl); rotate_left; (simp only [Act.put, List.setIfInBounds_toArray, List.set_cons_zero, List.set_cons_succ, i64_w, i32_w]; rfl)
       refine take_ (i := 24) (N := some 55) (v := ?_) (a' := ?_) bN25_ rfl rfl (take_ofW HT_.out HW_.out (by kernel_rfl)) (fun _ _ _ h => h) (Or.inl ⟨by rfl, ?_⟩) hHeld ?_ ?_; rotate_left; (rintro w' ⟨s0, s1, s2, s3, s4, s5, s6, s7, s8, s9⟩; go_simp; with_reducible rfl); rotate_left; (simp only [Act.put, List.setIfInBounds_toArray, List.set_cons_zero, List.set_cons_succ, i64_w, i32_w]; rfl)
       refine take_ (i := 26) (N := some 57) (v := ?_) (a' := ?_) bN26_ rfl rfl (take_ofW HT_.out HW_.out (by kernel_rfl)) (fun _ _ _ h => h) (Or.inl ⟨by rfl, ?_⟩) hHeld ?_ ?_; rotate_left; (rintro w' ⟨s0, s1, s2, s3, s4, s5, s6, s7, s8, s9⟩; go_simp; with_reducible rfl); rotate_left; (simp only [Act.put, List.setIfInBounds_toArray, List.set_cons_zero, List.set_cons_succ, i64_w, i32_w]; rfl)
       refine one_ (i := 25) (N := some 56) bN27_ rfl rfl (one_of HT_.out (by kernel_rfl)) (by decide) (fun K hK => ?_)
       refine goes_ Try.func15 (by kernel_rfl) rfl #[.agg #[.slice A0_0 l0_0.length c0_0]] (by rfl) rfl rfl (by (try simp only [List.map_toArray, List.map_cons, List.map_nil]); first | done | rfl | (simp only [List.length_drop, List.length_take]; rfl)) ?_
       with_reducible refine (coord_Right.calls k _ _ l0_0 t363 _ ?side1 ?side2 A13.out).mono ?_
       (case side1 => repeat (first | exact (Kd.C_below HR0_0.out HB.out) | (with_reducible refine Kd.C_alloc ?_ _) | (with_reducible refine Kd.C_drewN ?_ _) | (with_reducible refine Kd.C_drew ?_)))
       (case side2 => exact HC0_0.out)
       rintro e w48 ⟨rfl, hb⟩
       refine ⟨_, rfl, ?_⟩
       have n0_ := am_ (Kd.R_below (rx_ HO350) hb)
       have n1_ := am_ (Kd.V_below (vx_ HO358) hb)
       have n2_ := am_ (blk_below (g := gb342) (o := .cells #[.slice A0_0 l0_0.length c0_0] 26 (0, 0)) (bx_ BK342) hb)
       have n3_ := am_ (blk_below (g := gb343) (o := .cells #[.slice A1_0 l1_0.length c1_0] 26 (0, 0)) (bx_ BK343) hb)
       have n4_ := am_ (blk_below (g := gb344) (o := .cells #[.int .u64 a2_0, .int .u64 a2_1] 34 (0, 0)) (bx_ BK344) hb)
       have n5_ := am_ (blk_below (g := gb353) (o := .cells #[.int .u64 t346, .int .u64 t347, .slice Ao33 t348.length co33, .int .i64 t351] 42 (0, 0)) (bx_ BK353) hb)
       have n6_ := am_ (blk_below (g := gb361) (o := .cells #[.int .u64 t354, .int .u64 t355, .slice Ao44 t356.length co44, .int .i64 t359] 42 (0, 0)) (bx_ BK361) hb)
       have n7_ := am_ (below_step (hx_ HB) hb)
       clear HO350
       clear HO358
       clear BK342
       clear BK343
       clear BK344
       clear BK353
       clear BK361
       clear HB
       have HO350 := n0_
       have HO358 := n1_
       have BK342 := n2_
       have BK343 := n3_
       have BK344 := n4_
       have BK353 := n5_
       have BK361 := n6_
       have HB := n7_
       clear n0_ n1_ n2_ n3_ n4_ n5_ n6_ n7_
       (try clear hb)
       (try clear hb2)
       (try clear hk)
       (try clear hi)
       refine hK.out _ _ ⟨(blk_cell BK353.out 0).trans rfl, (blk_cell BK353.out 1).trans rfl, (blk_cell BK353.out 2).trans rfl, (blk_cell BK353.out 3).trans rfl, (blk_cell BK361.out 0).trans rfl, (blk_cell BK361.out 1).trans rfl, (blk_cell BK361.out 2).trans rfl, (blk_cell BK361.out 3).trans rfl, (blk_cell BK342.out 0).trans rfl, (blk_cell BK343.out 0).trans rfl⟩ (fun hHeld => ?_)
       clear hK K
       refine norm_ (a' := ?_) ?_ ?_
       rotate_left
       ·show Act.put _ (some 56) _ = _
        simp only [Act.put, List.setIfInBounds_toArray, List.set_cons_zero, List.set_cons_succ, i64_w, i32_w]
        rfl
       refine one_ (i := 27) (N := some 58) bN28_ rfl rfl (one_of HT_.out (by kernel_rfl)) (by decide) (fun K hK => ?_)
       refine goes_ Try.func10 (by kernel_rfl) rfl #[.agg #[.slice A0_0 l0_0.length c0_0]] (by rfl) rfl rfl (by (try simp only [List.map_toArray, List.map_cons, List.map_nil]); first | done | rfl | (simp only [List.length_drop, List.length_take]; rfl)) ?_
       with_reducible refine (ferruleref14_Right.calls k _ _ l0_0 t364 _ ?side1 ?side2 A14.out).mono ?_
       (case side1 => repeat (first | exact (Kd.C_below HR0_0.out HB.out) | (with_reducible refine Kd.C_alloc ?_ _) | (with_reducible refine Kd.C_drewN ?_ _) | (with_reducible refine Kd.C_drew ?_)))
       (case side2 => exact HC0_0.out)
       rintro e w49 ⟨rfl, hb⟩
       refine ⟨_, rfl, ?_⟩
       have n0_ := am_ (Kd.R_below (rx_ HO350) hb)
       have n1_ := am_ (Kd.V_below (vx_ HO358) hb)
       have n2_ := am_ (blk_below (g := gb342) (o := .cells #[.slice A0_0 l0_0.length c0_0] 26 (0, 0)) (bx_ BK342) hb)
       have n3_ := am_ (blk_below (g := gb343) (o := .cells #[.slice A1_0 l1_0.length c1_0] 26 (0, 0)) (bx_ BK343) hb)
       have n4_ := am_ (blk_below (g := gb344) (o := .cells #[.int .u64 a2_0, .int .u64 a2_1] 34 (0, 0)) (bx_ BK344) hb)
       have n5_ := am_ (blk_below (g := gb353) (o := .cells #[.int .u64 t346, .int .u64 t347, .slice Ao33 t348.length co33, .int .i64 t351] 42 (0, 0)) (bx_ BK353) hb)
       have n6_ := am_ (blk_below (g := gb361) (o := .cells #[.int .u64 t354, .int .u64 t355, .slice Ao44 t356.length co44, .int .i64 t359] 42 (0, 0)) (bx_ BK361) hb)
       have n7_ := am_ (below_step (hx_ HB) hb)
       clear HO350
       clear HO358
       clear BK342
       clear BK343
       clear BK344
       clear BK353
       clear BK361
       clear HB
       have HO350 := n0_
       have HO358 := n1_
       have BK342 := n2_
       have BK343 := n3_
       have BK344 := n4_
       have BK353 := n5_
       have BK361 := n6_
       have HB := n7_
       clear n0_ n1_ n2_ n3_ n4_ n5_ n6_ n7_
       (try clear hb)
       (try clear hb2)
       (try clear hk)
       (try clear hi)
       refine hK.out _ _ ⟨(blk_cell BK353.out 0).trans rfl, (blk_cell BK353.out 1).trans rfl, (blk_cell BK353.out 2).trans rfl, (blk_cell BK353.out 3).trans rfl, (blk_cell BK361.out 0).trans rfl, (blk_cell BK361.out 1).trans rfl, (blk_cell BK361.out 2).trans rfl, (blk_cell BK361.out 3).trans rfl, (blk_cell BK342.out 0).trans rfl, (blk_cell BK343.out 0).trans rfl⟩ (fun hHeld => ?_)
       clear hK K
       refine norm_ (a' := ?_) ?_ ?_
       rotate_left
       ·show Act.put _ (some 58) _ = _
        simp only [Act.put, List.setIfInBounds_toArray, List.set_cons_zero, List.set_cons_succ, i64_w, i32_w]
        rfl
       refine pure_ (i := 28) (N := some 59) (v := ?_) (a' := ?_) bN29_ rfl rfl (any_of HT_.out (by kernel_rfl)) (fun _ _ _ h => h) (Or.inl ⟨by rfl, ?_⟩) ?_ ?_; rotate_left; (intro w'; go_simp; with_reducible rfl); rotate_left; (simp only [Act.put, List.setIfInBounds_toArray, List.set_cons_zero, List.set_cons_succ, i64_w, i32_w]; rfl)
       refine pure_ (i := 29) (N := some 60) (v := ?_) (a' := ?_) bN30_ rfl rfl (any_of HT_.out (by kernel_rfl)) (fun _ _ _ h => h) (Or.inl ⟨by rfl, ?_⟩) ?_ ?_; rotate_left; (intro w'; go_simp; with_reducible rfl); rotate_left; (simp only [Act.put, List.setIfInBounds_toArray, List.set_cons_zero, List.set_cons_succ, i64_w, i32_w]; rfl)
       refine pure_ (i := 30) (N := some 61) (v := ?_) (a' := ?_) bN31_ rfl rfl (any_of HT_.out (by kernel_rfl)) (fun _ _ _ h => h) (Or.inl ⟨by rfl, ?_⟩) ?_ ?_; rotate_left; (intro w'; go_simp; with_reducible rfl); rotate_left; (simp only [Act.put, List.setIfInBounds_toArray, List.set_cons_zero, List.set_cons_succ, i64_w, i32_w]; rfl)
       refine take_ (i := 31) (N := some 62) (v := ?_) (a' := ?_) bN32_ rfl rfl (take_ofW HT_.out HW_.out (by kernel_rfl)) (fun _ _ _ h => h) (Or.inl ⟨by rfl, ?_⟩) hHeld ?_ ?_; rotate_left; (rintro w' ⟨s0, s1, s2, s3, s4, s5, s6, s7, s8, s9⟩; go_simp; with_reducible rfl); rotate_left; (simp only [Act.put, List.setIfInBounds_toArray, List.set_cons_zero, List.set_cons_succ, i64_w, i32_w]; rfl)
       refine take_ (i := 32) (N := some 63) (v := ?_) (a' := ?_) bN33_ rfl rfl (take_ofW HT_.out HW_.out (by kernel_rfl)) (fun _ _ _ h => h) (Or.inl ⟨by rfl, ?_⟩) hHeld ?_ ?_; rotate_left; (rintro w' ⟨s0, s1, s2, s3, s4, s5, s6, s7, s8, s9⟩; go_simp; with_reducible rfl); rotate_left; (simp only [Act.put, List.setIfInBounds_toArray, List.set_cons_zero, List.set_cons_succ, i64_w, i32_w]; rfl)
       refine take_ (i := 34) (N := some 65) (v := ?_) (a' := ?_) bN34_ rfl rfl (take_ofW HT_.out HW_.out (by kernel_rfl)) (fun _ _ _ h => h) (Or.inl ⟨by rfl, ?_⟩) hHeld ?_ ?_; rotate_left; (rintro w' ⟨s0, s1, s2, s3, s4, s5, s6, s7, s8, s9⟩; go_simp; with_reducible rfl); rotate_left; (simp only [Act.put, List.setIfInBounds_toArray, List.set_cons_zero, List.set_cons_succ, i64_w, i32_w]; rfl)
       refine take_ (i := 35) (N := some 66) (v := ?_) (a' := ?_) bN35_ rfl rfl (take_ofW HT_.out HW_.out (by kernel_rfl)) (fun _ _ _ h => h) (Or.inl ⟨by rfl, ?_⟩) hHeld ?_ ?_; rotate_left; (rintro w' ⟨s0, s1, s2, s3, s4, s5, s6, s7, s8, s9⟩; go_simp; with_reducible rfl); rotate_left; (simp only [Act.put, List.setIfInBounds_toArray, List.set_cons_zero, List.set_cons_succ, i64_w, i32_w]; rfl)
       refine one_ (i := 33) (N := some 64) bN36_ rfl rfl (one_of HT_.out (by kernel_rfl)) (by decide) (fun K hK => ?_)
       refine goes_ Try.func16 (by kernel_rfl) rfl #[.agg #[.slice A0_0 l0_0.length c0_0], .agg #[.slice A1_0 l1_0.length c1_0]] (by rfl) rfl rfl (by (try simp only [List.map_toArray, List.map_cons, List.map_nil]); first | done | rfl | (simp only [List.length_drop, List.length_take]; rfl)) ?_
       with_reducible refine (coord_Same.calls k _ _ l0_0 _ _ l1_0 t365 _ ?side1 ?side2 ?side3 ?side4 A16.out).mono ?_
       (case side1 => repeat (first | exact (Kd.C_below HR0_0.out HB.out) | (with_reducible refine Kd.C_alloc ?_ _) | (with_reducible refine Kd.C_drewN ?_ _) | (with_reducible refine Kd.C_drew ?_)))
       (case side2 => exact HC0_0.out)
       (case side3 => repeat (first | exact (Kd.C_below HR1_0.out HB.out) | (with_reducible refine Kd.C_alloc ?_ _) | (with_reducible refine Kd.C_drewN ?_ _) | (with_reducible refine Kd.C_drew ?_)))
       (case side4 => exact HC1_0.out)
       rintro e w50 ⟨rfl, hb⟩
       refine ⟨_, rfl, ?_⟩
       have n0_ := am_ (Kd.R_below (rx_ HO350) hb)
       have n1_ := am_ (Kd.V_below (vx_ HO358) hb)
       have n2_ := am_ (blk_below (g := gb342) (o := .cells #[.slice A0_0 l0_0.length c0_0] 26 (0, 0)) (bx_ BK342) hb)
       have n3_ := am_ (blk_below (g := gb343) (o := .cells #[.slice A1_0 l1_0.length c1_0] 26 (0, 0)) (bx_ BK343) hb)
       have n4_ := am_ (blk_below (g := gb344) (o := .cells #[.int .u64 a2_0, .int .u64 a2_1] 34 (0, 0)) (bx_ BK344) hb)
       have n5_ := am_ (blk_below (g := gb353) (o := .cells #[.int .u64 t346, .int .u64 t347, .slice Ao33 t348.length co33, .int .i64 t351] 42 (0, 0)) (bx_ BK353) hb)
       have n6_ := am_ (blk_below (g := gb361) (o := .cells #[.int .u64 t354, .int .u64 t355, .slice Ao44 t356.length co44, .int .i64 t359] 42 (0, 0)) (bx_ BK361) hb)
       have n7_ := am_ (below_step (hx_ HB) hb)
       clear HO350
       clear HO358
       clear BK342
       clear BK343
       clear BK344
       clear BK353
       clear BK361
       clear HB
       have HO350 := n0_
       have HO358 := n1_
       have BK342 := n2_
       have BK343 := n3_
       have BK344 := n4_
       have BK353 := n5_
       have BK361 := n6_
       have HB := n7_
       clear n0_ n1_ n2_ n3_ n4_ n5_ n6_ n7_
       (try clear hb)
       (try clear hb2)
       (try clear hk)
       (try clear hi)
       refine hK.out _ _ ⟨(blk_cell BK353.out 0).trans rfl, (blk_cell BK353.out 1).trans rfl, (blk_cell BK353.out 2).trans rfl, (blk_cell BK353.out 3).trans rfl, (blk_cell BK361.out 0).trans rfl, (blk_cell BK361.out 1).trans rfl, (blk_cell BK361.out 2).trans rfl, (blk_cell BK361.out 3).trans rfl, (blk_cell BK342.out 0).trans rfl, (blk_cell BK343.out 0).trans rfl⟩ (fun hHeld => ?_)
       clear hK K
       refine norm_ (a' := ?_) ?_ ?_
       rotate_left
       ·show Act.put _ (some 64) _ = _
        simp only [Act.put, List.setIfInBounds_toArray, List.set_cons_zero, List.set_cons_succ, i64_w, i32_w]
        rfl
       refine one_ (i := 36) (N := some 67) bN37_ rfl rfl (one_of HT_.out (by kernel_rfl)) (by decide) (fun K hK => ?_)
       refine goes_ Try.func12 (by kernel_rfl) rfl #[.agg #[.slice A0_0 l0_0.length c0_0], .agg #[.slice A1_0 l1_0.length c1_0]] (by rfl) rfl rfl (by (try simp only [List.map_toArray, List.map_cons, List.map_nil]); first | done | rfl | (simp only [List.length_drop, List.length_take]; rfl)) ?_
       with_reducible refine (ferruleref14_Same.calls k _ _ l0_0 _ _ l1_0 t366 _ ?side1 ?side2 ?side3 ?side4 A17.out).mono ?_
       (case side1 => repeat (first | exact (Kd.C_below HR0_0.out HB.out) | (with_reducible refine Kd.C_alloc ?_ _) | (with_reducible refine Kd.C_drewN ?_ _) | (with_reducible refine Kd.C_drew ?_)))
       (case side2 => exact HC0_0.out)
       (case side3 => repeat (first | exact (Kd.C_below HR1_0.out HB.out) | (with_reducible refine Kd.C_alloc ?_ _) | (with_reducible refine Kd.C_drewN ?_ _) | (with_reducible refine Kd.C_drew ?_)))
       (case side4 => exact HC1_0.out)
       rintro e w51 ⟨rfl, hb⟩
       refine ⟨_, rfl, ?_⟩
       have n0_ := am_ (Kd.R_below (rx_ HO350) hb)
       have n1_ := am_ (Kd.V_below (vx_ HO358) hb)
       have n2_ := am_ (blk_below (g := gb342) (o := .cells #[.slice A0_0 l0_0.length c0_0] 26 (0, 0)) (bx_ BK342) hb)
       have n3_ := am_ (blk_below (g := gb343) (o := .cells #[.slice A1_0 l1_0.length c1_0] 26 (0, 0)) (bx_ BK343) hb)
       have n4_ := am_ (blk_below (g := gb344) (o := .cells #[.int .u64 a2_0, .int .u64 a2_1] 34 (0, 0)) (bx_ BK344) hb)
       have n5_ := am_ (blk_below (g := gb353) (o := .cells #[.int .u64 t346, .int .u64 t347, .slice Ao33 t348.length co33, .int .i64 t351] 42 (0, 0)) (bx_ BK353) hb)
       have n6_ := am_ (blk_below (g := gb361) (o := .cells #[.int .u64 t354, .int .u64 t355, .slice Ao44 t356.length co44, .int .i64 t359] 42 (0, 0)) (bx_ BK361) hb)
       have n7_ := am_ (below_step (hx_ HB) hb)
       clear HO350
       clear HO358
       clear BK342
       clear BK343
       clear BK344
       clear BK353
       clear BK361
       clear HB
       have HO350 := n0_
       have HO358 := n1_
       have BK342 := n2_
       have BK343 := n3_
       have BK344 := n4_
       have BK353 := n5_
       have BK361 := n6_
       have HB := n7_
       clear n0_ n1_ n2_ n3_ n4_ n5_ n6_ n7_
       (try clear hb)
       (try clear hb2)
       (try clear hk)
       (try clear hi)
       refine hK.out _ _ ⟨(blk_cell BK353.out 0).trans rfl, (blk_cell BK353.out 1).trans rfl, (blk_cell BK353.out 2).trans rfl, (blk_cell BK353.out 3).trans rfl, (blk_cell BK361.out 0).trans rfl, (blk_cell BK361.out 1).trans rfl, (blk_cell BK361.out 2).trans rfl, (blk_cell BK361.out 3).trans rfl, (blk_cell BK342.out 0).trans rfl, (blk_cell BK343.out 0).trans rfl⟩ (fun hHeld => ?_)
       clear hK K
       refine norm_ (a' := ?_) ?_ ?_
       rotate_left
       ·show Act.put _ (some 67) _ = _
        simp only [Act.put, List.setIfInBounds_toArray, List.set_cons_zero, List.set_cons_succ, i64_w, i32_w]
        rfl
       refine pure_ (i := 37) (N := some 68) (v := ?_) (a' := ?_) bN38_ rfl rfl (any_of HT_.out (by kernel_rfl)) (fun _ _ _ h => h) (Or.inl ⟨by rfl, ?_⟩) ?_ ?_; rotate_left; (intro w'; go_simp; with_reducible rfl); rotate_left; (simp only [Act.put, List.setIfInBounds_toArray, List.set_cons_zero, List.set_cons_succ, i64_w, i32_w]; rfl)
       refine pure_ (i := 38) (N := some 69) (v := ?_) (a' := ?_) bN39_ rfl rfl (any_of HT_.out (by kernel_rfl)) (fun _ _ _ h => h) (Or.inl ⟨by rfl, ?_⟩) ?_ ?_; rotate_left; (intro w'; go_simp; with_reducible rfl); rotate_left; (simp only [Act.put, List.setIfInBounds_toArray, List.set_cons_zero, List.set_cons_succ, i64_w, i32_w]; rfl)
       refine pure_ (i := 39) (N := some 6) (v := ?_) (a' := ?_) bN40_ rfl rfl (any_of HT_.out (by kernel_rfl)) (fun _ _ _ h => h) (Or.inl ⟨by rfl, ?_⟩) ?_ ?_; rotate_left; (intro w'; go_simp; with_reducible rfl); rotate_left; (simp only [Act.put, List.setIfInBounds_toArray, List.set_cons_zero, List.set_cons_succ, i64_w, i32_w]; rfl)
       refine done_ (done_of HT_.out (by kernel_rfl)) ?_
       try go_wp2
       go_ret
       exact ⟨by first | rfl | (simp [errW_none, errW_some] <;> rfl) | (simp [*, errW_none, errW_some] <;> rfl), hx_ HB⟩
      ·rw [if_neg c15] at H
       have c15b0 : (t363 == t364) = false := by simpa using c15
       (try (have c15b1 : decide (t363 = t364) = false := by simpa using c15))
       (try (have c15b2 : (t363 == t364) = false := by simpa using c15))
       (try (have c15b3 : ¬ (t363 = t364) := by simpa using c15))
       clear c15
       exact absurd H (by simp)
     ·replace c12 := Bool.eq_false_iff.mpr c12
      subst c12
      have H1 : (none) = some r := by rw [if_neg (show ¬ (false = true) by decide)] at H; exact H
      clear H
      have H := H1
      clear H1
      exact absurd H (by simp)
    ·rw [if_neg c11] at H
     have c11b0 : (t351 == t359) = false := beq_eq_false_iff_ne.mpr c11
     have c11b1 : (t351 != t359) = true := bne_iff_ne.mpr c11
     exact absurd H (by simp)
   ·rw [if_neg c10] at H
    have c10b0 : (t346 == t354 && (t347 == t355)) = false := by simpa using c10
    (try (have c10b1 : decide (t346 = t354 && (t347 == t355)) = false := by simpa using c10))
    (try (have c10b2 : (t346 == t354 && (t347 == t355)) = false := by simpa using c10))
    (try (have c10b3 : ¬ (t346 = t354 && (t347 == t355)) := by simpa using c10))
    clear c10
    exact absurd H (by simp)
  ·rw [if_neg c9] at H
   have c9b0 : (t352 == t360) = false := by simpa using c9
   (try (have c9b1 : decide (t352 = t360) = false := by simpa using c9))
   (try (have c9b2 : (t352 == t360) = false := by simpa using c9))
   (try (have c9b3 : ¬ (t352 = t360) := by simpa using c9))
   clear c9
   exact absurd H (by simp)
 ·replace c8 := Bool.eq_false_iff.mpr c8
  subst c8
  have H1 : (none) = some r := by rw [if_neg (show ¬ (false = true) by decide)] at H; exact H
  clear H
  have H := H1
  clear H1
  exact absurd H (by simp)

end Go.Proofs.Ytdlkpejlkijgcaa.Pr
