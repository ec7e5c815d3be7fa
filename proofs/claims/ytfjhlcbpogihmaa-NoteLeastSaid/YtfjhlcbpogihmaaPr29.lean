/- What the program's functions compute, and that they compute it: printed out of the translation by a program of this session's (px.py, over the kit's printer). Conditions: none. -/
import Derived.Test.YtfjhlcbpogihmaaPr0
import Derived.Test.YtfjhlcbpogihmaaPr6
import Derived.Test.YtfjhlcbpogihmaaPr22
import Derived.Test.YtfjhlcbpogihmaaPr24
import Derived.Test.YtfjhlcbpogihmaaPr25
import Derived.Test.YtfjhlcbpogihmaaPr26
import Derived.Test.YtfjhlcbpogihmaaPr28
namespace Go.Proofs.Ytfjhlcbpogihmaa.Pr
open Go.RowKit Go.Proofs.YtfjhlcbpogihmaaW.PrintWords Go.Proofs.YtfjhlcbpogihmaaW.PrintLast Go.Proofs.YtfjhlcbpogihmaaW.PrintMore
attribute [local go_sem] max2_int min2_int max_two min_two max_three min_three max_four min_four   -- for this text's walks alone
set_option linter.unusedVariables false
set_option linter.unusedSimpArgs false

/-! ### ferrulelaw04_NoteLeast: function 6 -/
def ferrulelaw04_NoteLeast.f (k : Nat) (a0_0 : Int) (a0_1 : Int) (a0_2 : Int) (a0_3 : Int) (a0_4 : ByteArray) (l0_5 : List (S75)) : Option (Bool) := (ferrulelaw04_shown.f).bind fun t380 => ((note_Least.f k a0_0 a0_1 a0_2 a0_3 a0_4 l0_5).bind fun bt381 => ((ferruleref04_Least.f k a0_0 a0_1 a0_2 a0_3 a0_4 l0_5).bind fun bt385 => ((ferruleref04_Notes.f k bt381.1 bt385.1).bind fun t389 => (if t380 = true then (if t389 = true then (if bt381.2 = bt385.2 then ((note_May.f k a0_0 a0_1 a0_2 a0_3 a0_4 l0_5).bind fun t390 => ((ferruleref04_May.f k a0_0 a0_1 a0_2 a0_3 a0_4 l0_5).bind fun t391 => (some (t390 == t391)))) else (none)) else (none)) else (none)))))
theorem ferrulelaw04_NoteLeast.mono : ∀ a0 a1 a2 a3 a4 a5 k, LeO (ferrulelaw04_NoteLeast.f k a0 a1 a2 a3 a4 a5) (ferrulelaw04_NoteLeast.f (k + 1) a0 a1 a2 a3 a4 a5) := by
  intro a0 a1 a2 a3 a4 a5 k
  unfold ferrulelaw04_NoteLeast.f
  repeat' first
      | (with_reducible exact ferruleref04_Least.mono _ _ _ _ _ _ _)
      | (with_reducible exact ferruleref04_May.mono _ _ _ _ _ _ _)
      | (with_reducible exact ferruleref04_Notes.mono _ _ _)
      | (with_reducible exact note_Least.mono _ _ _ _ _ _ _)
      | (with_reducible exact note_May.mono _ _ _ _ _ _ _)
      | (with_reducible exact LeO.refl _)
      | (with_reducible exact LeO.none _)
      | (with_reducible refine LeO.ite ?_ ?_)
      | (with_reducible refine LeO.bind ?_ (fun _ => ?_))
      | exact ferruleref04_Least.mono _ _ _ _ _ _ _
      | exact ferruleref04_May.mono _ _ _ _ _ _ _
      | exact ferruleref04_Notes.mono _ _ _
      | exact note_Least.mono _ _ _ _ _ _ _
      | exact note_May.mono _ _ _ _ _ _ _
      | exact LeO.none _
      | refine LeO.ite ?_ ?_
      | refine LeO.bind ?_ (fun _ => ?_)
def ferrulelaw04_NoteLeast.T5 : Bool × List (List Nat × List Nat) := (true, [([], []), ([0], [0]), ([1], [1]), ([1, 2], [1, 2]), ([3, 1], [3]), ([4], [4]), ([4], [4]), ([5, 6, 4], [4, 5, 6]), ([4, 7], [4, 7]), ([8, 4], [8]), ([9], [9]), ([10, 9, 9], [9, 10]), ([9], [9]), ([12, 11, 9], [9, 12]), ([11, 13, 9], [9, 11, 13]), ([9, 14], [9, 14]), ([15, 13, 0, 1, 2, 3, 4, 5, 6, 7, 8, 9, 10, 11, 12, 13, 14, 15], [15])])
def ferrulelaw04_NoteLeast.B5 : List Nat := [0, 1, 3, 7, 15, 31, 31, 127, 255, 511, 1023, 2047, 1023, 8191, 16383, 32767, 65535]
theorem ferrulelaw04_NoteLeast.tab5 : rtab .any (opsOf Try.f6 5) = ferrulelaw04_NoteLeast.T5 := by kernel_rfl
theorem ferrulelaw04_NoteLeast.bits5 : waitsOk ferrulelaw04_NoteLeast.T5.2 ferrulelaw04_NoteLeast.B5 = true := by kernel_rfl
namespace Sh29
theorem am_ {p : Prop} (h : p) : Aside0 p := ⟨h⟩
theorem bx_ {Q P : Prop} (b : Aside0 Q) (h : Q → P := by intro hq_; (with_reducible repeat (first | refine blk_drewN ?_ _ | refine blk_drew ?_ | refine blk_alloc ?_ _)); exact hq_) : P := h b.out
theorem hx_ {Q P : Prop} (b : Aside0 Q) (h : Q → P := by intro hq_; repeat (first | (with_reducible first | exact hq_ | apply below_alloc | apply pw_below_drewN | apply below_drew1 | refine below_set ?_ (Aside0.out (by assumption))) | exact hq_)) : P := h b.out
theorem fz_ {Q G P : Prop} (q : Q) (g : Aside0 G) (h : Q → G → P := by intro q_ g_; first | exact Nat.ne_of_lt (Nat.lt_of_lt_of_le (by have := World.block_lt_of_cell? _ _ q_; first | rwa [add_block] at this | exact this) g_) | (rw [add_block]; exact Nat.ne_of_lt (Nat.lt_of_lt_of_le (by have := World.block_lt_of_cell? _ _ q_; first | rwa [add_block] at this | exact this) g_)) | (show (Addr.add _ _).block ≠ _; rw [add_block]; exact Nat.ne_of_lt (Nat.lt_of_lt_of_le (by have := World.block_lt_of_cell? _ _ q_; first | rwa [add_block] at this | exact this) g_)) | (dsimp only; exact Nat.ne_of_lt (Nat.lt_of_lt_of_le (by have := World.block_lt_of_cell? _ _ q_; first | rwa [add_block] at this | exact this) g_))) : P := h q g.out
theorem vx_ {Q P : Prop} (b : Aside0 Q) (h : Q → P := by intro hq_; (with_reducible repeat (first | apply Kd.V_alloc | apply Kd.V_drewN | apply Kd.V_drew)); exact hq_) : P := h b.out
theorem rx_ {Q P : Prop} (b : Aside0 Q) (h : Q → P := by intro hq_; (with_reducible repeat (first | apply Kd.R_alloc | apply Kd.R_drewN | apply Kd.R_drew)); exact hq_) : P := h b.out
theorem nx_ {Q P : Prop} (b : Aside0 Q) (h : Q → P := by intro hq_; (with_reducible repeat (first | apply Kd.N_alloc | apply Kd.N_drewN | apply Kd.N_drew)); exact hq_) : P := h b.out
abbrev bN0_ : Array Bool := #[false, false, false, false, false, false, false, false, false, false, false, false, false, false, false, false, false]
abbrev bN1_ : Array Bool := #[true, false, false, false, false, false, false, false, false, false, false, false, false, false, false, false, false]
abbrev bN2_ : Array Bool := #[true, true, false, false, false, false, false, false, false, false, false, false, false, false, false, false, false]
abbrev bN3_ : Array Bool := #[true, true, true, false, false, false, false, false, false, false, false, false, false, false, false, false, false]
abbrev bN4_ : Array Bool := #[true, true, true, true, false, false, false, false, false, false, false, false, false, false, false, false, false]
abbrev bN5_ : Array Bool := #[true, true, true, true, true, false, false, false, false, false, false, false, false, false, false, false, false]
abbrev bN6_ : Array Bool := #[true, true, true, true, true, true, false, false, false, false, false, false, false, false, false, false, false]
abbrev bN7_ : Array Bool := #[true, true, true, true, true, true, true, false, false, false, false, false, false, false, false, false, false]
abbrev bN8_ : Array Bool := #[true, true, true, true, true, true, true, true, false, false, false, false, false, false, false, false, false]
abbrev bN9_ : Array Bool := #[true, true, true, true, true, true, true, true, true, false, false, false, false, false, false, false, false]
abbrev bN10_ : Array Bool := #[true, true, true, true, true, true, true, true, true, true, false, false, false, false, false, false, false]
abbrev bN11_ : Array Bool := #[true, true, true, true, true, true, true, true, true, true, true, false, false, false, false, false, false]
abbrev bN12_ : Array Bool := #[true, true, true, true, true, true, true, true, true, true, true, false, true, false, false, false, false]
abbrev bN13_ : Array Bool := #[true, true, true, true, true, true, true, true, true, true, true, true, true, false, false, false, false]
abbrev bN14_ : Array Bool := #[true, true, true, true, true, true, true, true, true, true, true, true, true, true, false, false, false]
abbrev bN15_ : Array Bool := #[true, true, true, true, true, true, true, true, true, true, true, true, true, true, true, false, false]
abbrev bN16_ : Array Bool := #[true, true, true, true, true, true, true, true, true, true, true, true, true, true, true, true, false]
abbrev bN17_ : Array Bool := #[true, true, true, true, true, true, true, true, true, true, true, true, true, true, true, true, true]
end Sh29
open Sh29
set_option maxHeartbeats 8000000 in
set_option maxRecDepth 100000 in
theorem ferrulelaw04_NoteLeast.calls (k : Nat) (a0_0 : Int) (a0_1 : Int) (a0_2 : Int) (a0_3 : Int) (a0_4 : ByteArray) (A0_5 : Option Addr) (c0_5 : Nat) (l0_5 : List (S75)) (r : Bool) (w : World) (hr0_5 : Kd.C k75 w A0_5 l0_5.length l0_5) (hc0_5 : l0_5.length ≤ c0_5) (h : ferrulelaw04_NoteLeast.f k a0_0 a0_1 a0_2 a0_3 a0_4 l0_5 = some r) :
  Calls Try.prog 6 #[.agg #[.int .u64 a0_0, .int .u64 a0_1, .int .u64 a0_2, .int .u64 a0_3, .string a0_4, .slice A0_5 l0_5.length c0_5]] w fun e w' => e = .returned (.bool r) ∧ Below w.heap.size w w' := by
 have hu30 := Try.underlying30
 have HR0_5 := am_ hr0_5
 have HC0_5 := am_ hc0_5
 clear hr0_5 hc0_5
 have HB := am_ (Below.refl w.heap.size w)
 have H : ((ferrulelaw04_shown.f).bind fun t380 => ((note_Least.f k a0_0 a0_1 a0_2 a0_3 a0_4 l0_5).bind fun bt381 => ((ferruleref04_Least.f k a0_0 a0_1 a0_2 a0_3 a0_4 l0_5).bind fun bt385 => ((ferruleref04_Notes.f k bt381.1 bt385.1).bind fun t389 => (if t380 = true then (if t389 = true then (if bt381.2 = bt385.2 then ((note_May.f k a0_0 a0_1 a0_2 a0_3 a0_4 l0_5).bind fun t390 => ((ferruleref04_May.f k a0_0 a0_1 a0_2 a0_3 a0_4 l0_5).bind fun t391 => (some (t390 == t391)))) else (none)) else (none)) else (none)))))) = some r := h
 clear h
 replace H := Option.bind_eq_some_iff.mp H
 obtain ⟨t380, A20, H⟩ := H
 replace H : ((note_Least.f k a0_0 a0_1 a0_2 a0_3 a0_4 l0_5).bind fun bt381 => ((ferruleref04_Least.f k a0_0 a0_1 a0_2 a0_3 a0_4 l0_5).bind fun bt385 => ((ferruleref04_Notes.f k bt381.1 bt385.1).bind fun t389 => (if t380 = true then (if t389 = true then (if bt381.2 = bt385.2 then ((note_May.f k a0_0 a0_1 a0_2 a0_3 a0_4 l0_5).bind fun t390 => ((ferruleref04_May.f k a0_0 a0_1 a0_2 a0_3 a0_4 l0_5).bind fun t391 => (some (t390 == t391)))) else (none)) else (none)) else (none))))) = some r := H
 have A2 := am_ A20
 clear A20
 replace H := Option.bind_eq_some_iff.mp H
 obtain ⟨⟨t381, t384⟩, A30, H⟩ := H
 replace H : ((ferruleref04_Least.f k a0_0 a0_1 a0_2 a0_3 a0_4 l0_5).bind fun bt385 => ((ferruleref04_Notes.f k t381 bt385.1).bind fun t389 => (if t380 = true then (if t389 = true then (if t384 = bt385.2 then ((note_May.f k a0_0 a0_1 a0_2 a0_3 a0_4 l0_5).bind fun t390 => ((ferruleref04_May.f k a0_0 a0_1 a0_2 a0_3 a0_4 l0_5).bind fun t391 => (some (t390 == t391)))) else (none)) else (none)) else (none)))) = some r := H
 have A3 := am_ A30
 clear A30
 replace H := Option.bind_eq_some_iff.mp H
 obtain ⟨⟨t385, t388⟩, A40, H⟩ := H
 replace H : ((ferruleref04_Notes.f k t381 t385).bind fun t389 => (if t380 = true then (if t389 = true then (if t384 = t388 then ((note_May.f k a0_0 a0_1 a0_2 a0_3 a0_4 l0_5).bind fun t390 => ((ferruleref04_May.f k a0_0 a0_1 a0_2 a0_3 a0_4 l0_5).bind fun t391 => (some (t390 == t391)))) else (none)) else (none)) else (none))) = some r := H
 have A4 := am_ A40
 clear A40
 replace H := Option.bind_eq_some_iff.mp H
 obtain ⟨t389, A50, H⟩ := H
 replace H : (if t380 = true then (if t389 = true then (if t384 = t388 then ((note_May.f k a0_0 a0_1 a0_2 a0_3 a0_4 l0_5).bind fun t390 => ((ferruleref04_May.f k a0_0 a0_1 a0_2 a0_3 a0_4 l0_5).bind fun t391 => (some (t390 == t391)))) else (none)) else (none)) else (none)) = some r := H
 have A5 := am_ A50
 clear A50
 by_cases c6 : t380 = true
 ·subst c6
  have H1 : (if t389 = true then (if t384 = t388 then ((note_May.f k a0_0 a0_1 a0_2 a0_3 a0_4 l0_5).bind fun t390 => ((ferruleref04_May.f k a0_0 a0_1 a0_2 a0_3 a0_4 l0_5).bind fun t391 => (some (t390 == t391)))) else (none)) else (none)) = some r := by rw [if_pos rfl] at H; exact H
  clear H
  have H := H1
  clear H1
  by_cases c7 : t389 = true
  ·subst c7
   have H1 : (if t384 = t388 then ((note_May.f k a0_0 a0_1 a0_2 a0_3 a0_4 l0_5).bind fun t390 => ((ferruleref04_May.f k a0_0 a0_1 a0_2 a0_3 a0_4 l0_5).bind fun t391 => (some (t390 == t391)))) else (none)) = some r := by rw [if_pos rfl] at H; exact H
   clear H
   have H := H1
   clear H1
   by_cases c8 : t384 = t388
   ·rw [if_pos c8] at H
    have c8b0 : (t384 == t388) = true := beq_iff_eq.mpr c8
    have c8b1 : (t384 != t388) = false := bne_eq_false_iff_eq.mpr c8
    clear c8
    replace H := Option.bind_eq_some_iff.mp H
    obtain ⟨t390, A90, H⟩ := H
    replace H : ((ferruleref04_May.f k a0_0 a0_1 a0_2 a0_3 a0_4 l0_5).bind fun t391 => (some (t390 == t391))) = some r := H
    have A9 := am_ A90
    clear A90
    replace H := Option.bind_eq_some_iff.mp H
    obtain ⟨t391, A100, H⟩ := H
    replace H : (some (t390 == t391)) = some r := H
    have A10 := am_ A100
    clear A100
    obtain rfl := Option.some.inj H
    go_enter Try.func6, Try.ntmps6
    try go_wp2_with (first | ((with_reducible refine gate_dst (N := 1) rfl ?_); refine box_event ?hg (N := 1) ?hd (cs := #[.int .u64 a0_0, .int .u64 a0_1, .int .u64 a0_2, .int .u64 a0_3, .string a0_4, .slice A0_5 l0_5.length c0_5]) (t := 30) ?hr ?_; (case hd => rfl); (case hg => rfl); (case hr => first | (go_simp; done) | (go_simp; rfl)); intro gb379 hg w11 hbox hb; have n0_ := am_ (below_step (by repeat (first | (with_reducible first | exact HB.out | apply below_alloc | apply pw_below_drewN | apply below_drew1) | exact HB.out | exact Below.refl _ _)) hb); have n1_ := am_ (hbox); have n2_ := am_ ((by rw [hg]; exact (below_size (hx_ HB)) : w.heap.size ≤ gb379)); have n3_ := am_ ((by rw [hg]; exact (below_size (hx_ HB)) : w.heap.size ≤ gb379)); clear HB; have HB := n0_; have BK379 := n1_; have GW379 := n2_; have GE379 := n3_; clear n0_ n1_ n2_ n3_; clear hb hbox hg) | ((with_reducible refine gate_callee (f := 14) rfl ?_); refine goesL_ (some 9) rfl rfl Try.func14 (by kernel_rfl) rfl #[] rfl (by (try simp only [List.map_toArray, List.map_cons, List.map_nil]); first | done | rfl | (simp only [List.length_drop, List.length_take]; rfl)) ?_; (with_reducible refine (ferrulelaw04_shown.calls  true _ A2.out).mono ?_); rintro e w12 ⟨rfl, hb⟩; refine ⟨_, rfl, ?_⟩; have n0_ := am_ (blk_below (g := gb379) (o := .cells #[.int .u64 a0_0, .int .u64 a0_1, .int .u64 a0_2, .int .u64 a0_3, .string a0_4, .slice A0_5 l0_5.length c0_5] 30 (0, 0)) (bx_ BK379) hb); have n1_ := am_ (below_step (by repeat (first | (with_reducible first | exact HB.out | apply below_alloc | apply pw_below_drewN | apply below_drew1 | refine below_set ?_ GE379.out) | exact HB.out | exact Below.refl _ _)) hb); clear BK379; clear HB; have BK379 := n0_; have HB := n1_; clear n0_ n1_; (try clear hb); (try clear hb2); (try clear hk); (try clear hi); have hcz13_0 : w12.cell? ⟨gb379, 0, none⟩ = some (.int .u64 a0_0) := (blk_cell BK379.out 0).trans rfl; have hcz13_1 : w12.cell? ⟨gb379, 1, none⟩ = some (.int .u64 a0_1) := (blk_cell BK379.out 1).trans rfl; have hcz13_2 : w12.cell? ⟨gb379, 2, none⟩ = some (.int .u64 a0_2) := (blk_cell BK379.out 2).trans rfl; have hcz13_3 : w12.cell? ⟨gb379, 3, none⟩ = some (.int .u64 a0_3) := (blk_cell BK379.out 3).trans rfl; have hcz13_4 : w12.cell? ⟨gb379, 4, none⟩ = some (.string a0_4) := (blk_cell BK379.out 4).trans rfl; have hcz13_5 : w12.cell? ⟨gb379, 5, none⟩ = some (.slice A0_5 l0_5.length c0_5) := (blk_cell BK379.out 5).trans rfl; have hfz13_0 := blk_frozen BK379.out 0; have hfz13_1 := blk_frozen BK379.out 1; have hfz13_2 := blk_frozen BK379.out 2; have hfz13_3 := blk_frozen BK379.out 3; have hfz13_4 := blk_frozen BK379.out 4; have hfz13_5 := blk_frozen BK379.out 5) | ((with_reducible refine gate_callee (f := 26) rfl ?_); refine goesL_ (some 12) rfl rfl Try.func26 (by kernel_rfl) rfl #[.agg #[.int .u64 a0_0, .int .u64 a0_1, .int .u64 a0_2, .int .u64 a0_3, .string a0_4, .slice A0_5 l0_5.length c0_5]] rfl (by (try simp only [List.map_toArray, List.map_cons, List.map_nil]); first | done | rfl | (simp only [List.length_drop, List.length_take]; rfl)) ?_; (with_reducible refine (note_Least.calls k a0_0 a0_1 a0_2 a0_3 a0_4 _ _ l0_5 t381 t384 _ ?side1 ?side2 A3.out).mono ?_); (case side1 => repeat (first | exact (Kd.C_below HR0_5.out HB.out) | (with_reducible refine Kd.C_alloc ?_ _) | (with_reducible refine Kd.C_drewN ?_ _) | (with_reducible refine Kd.C_drew ?_))); (case side2 => exact HC0_5.out); rintro e w14 ⟨v382, rfl, ho0, hb⟩; refine ⟨_, rfl, ?_⟩; have n0_ := am_ (Kd.R_lower ho0 (below_size (hx_ HB))); have n1_ := am_ (blk_below (g := gb379) (o := .cells #[.int .u64 a0_0, .int .u64 a0_1, .int .u64 a0_2, .int .u64 a0_3, .string a0_4, .slice A0_5 l0_5.length c0_5] 30 (0, 0)) (bx_ BK379) hb); have n2_ := am_ (below_step (by repeat (first | (with_reducible first | exact HB.out | apply below_alloc | apply pw_below_drewN | apply below_drew1 | refine below_set ?_ GE379.out) | exact HB.out | exact Below.refl _ _)) hb); clear BK379; clear HB; have HO383 := n0_; have BK379 := n1_; have HB := n2_; clear n0_ n1_ n2_; (try clear hb); (try clear hb2); (try clear hk); (try clear hi); (try clear ho0); have hcz15_0 : w14.cell? ⟨gb379, 0, none⟩ = some (.int .u64 a0_0) := (blk_cell BK379.out 0).trans rfl; have hcz15_1 : w14.cell? ⟨gb379, 1, none⟩ = some (.int .u64 a0_1) := (blk_cell BK379.out 1).trans rfl; have hcz15_2 : w14.cell? ⟨gb379, 2, none⟩ = some (.int .u64 a0_2) := (blk_cell BK379.out 2).trans rfl; have hcz15_3 : w14.cell? ⟨gb379, 3, none⟩ = some (.int .u64 a0_3) := (blk_cell BK379.out 3).trans rfl; have hcz15_4 : w14.cell? ⟨gb379, 4, none⟩ = some (.string a0_4) := (blk_cell BK379.out 4).trans rfl; have hcz15_5 : w14.cell? ⟨gb379, 5, none⟩ = some (.slice A0_5 l0_5.length c0_5) := (blk_cell BK379.out 5).trans rfl; have hfz15_0 := blk_frozen BK379.out 0; have hfz15_1 := blk_frozen BK379.out 1; have hfz15_2 := blk_frozen BK379.out 2; have hfz15_3 := blk_frozen BK379.out 3; have hfz15_4 := blk_frozen BK379.out 4; have hfz15_5 := blk_frozen BK379.out 5) | ((with_reducible refine gate_callee (f := 28) rfl ?_); refine goesL_ (some 17) rfl rfl Try.func28 (by kernel_rfl) rfl #[.agg #[.int .u64 a0_0, .int .u64 a0_1, .int .u64 a0_2, .int .u64 a0_3, .string a0_4, .slice A0_5 l0_5.length c0_5]] rfl (by (try simp only [List.map_toArray, List.map_cons, List.map_nil]); first | done | rfl | (simp only [List.length_drop, List.length_take]; rfl)) ?_; (with_reducible refine (ferruleref04_Least.calls k a0_0 a0_1 a0_2 a0_3 a0_4 _ _ l0_5 t385 t388 _ ?side1 ?side2 A4.out).mono ?_); (case side1 => repeat (first | exact (Kd.C_below HR0_5.out HB.out) | (with_reducible refine Kd.C_alloc ?_ _) | (with_reducible refine Kd.C_drewN ?_ _) | (with_reducible refine Kd.C_drew ?_))); (case side2 => exact HC0_5.out); rintro e w16 ⟨v386, rfl, ho0, hb⟩; refine ⟨_, rfl, ?_⟩; have n0_ := am_ (Kd.R_elder' (rx_ HO383) (Kd.R_base ho0) hb); have n1_ := am_ (Kd.R_lower (Kd.R_new' ho0 (Kd.R_lt (rx_ HO383))) (below_size (hx_ HB))); have n2_ := am_ (blk_below (g := gb379) (o := .cells #[.int .u64 a0_0, .int .u64 a0_1, .int .u64 a0_2, .int .u64 a0_3, .string a0_4, .slice A0_5 l0_5.length c0_5] 30 (0, 0)) (bx_ BK379) hb); have n3_ := am_ (below_step (by repeat (first | (with_reducible first | exact HB.out | apply below_alloc | apply pw_below_drewN | apply below_drew1 | refine below_set ?_ GE379.out) | exact HB.out | exact Below.refl _ _)) hb); clear HO383; clear BK379; clear HB; have HO383 := n0_; have HO387 := n1_; have BK379 := n2_; have HB := n3_; clear n0_ n1_ n2_ n3_; (try clear hb); (try clear hb2); (try clear hk); (try clear hi); (try clear ho0); obtain ⟨Ao17, co17, eo17⟩ := Kd.R_slice HO383.out; subst eo17; obtain ⟨Ao18, co18, eo18⟩ := Kd.R_slice HO387.out; subst eo18) | ((with_reducible refine gate_callee (f := 24) rfl ?_); refine goesL_ (some 22) rfl rfl Try.func24 (by kernel_rfl) rfl #[.slice Ao17 t381.length co17, .slice Ao18 t385.length co18] rfl (by (try simp only [List.map_toArray, List.map_cons, List.map_nil]); first | done | rfl | (simp only [List.length_drop, List.length_take]; rfl)) ?_; (with_reducible refine (ferruleref04_Notes.calls k _ _ t381 _ _ t385 true _ ?side1 ?side2 ?side3 ?side4 A5.out).mono ?_); (case side1 => repeat (first | exact (Kd.R_reads' HO383.out).2.2 | (with_reducible refine Kd.C_alloc ?_ _) | (with_reducible refine Kd.C_drewN ?_ _) | (with_reducible refine Kd.C_drew ?_))); (case side2 => exact (Kd.R_reads' HO383.out).2.1); (case side3 => repeat (first | exact (Kd.R_reads' HO387.out).2.2 | (with_reducible refine Kd.C_alloc ?_ _) | (with_reducible refine Kd.C_drewN ?_ _) | (with_reducible refine Kd.C_drew ?_))); (case side4 => exact (Kd.R_reads' HO387.out).2.1); rintro e w' ⟨rfl, ⟨nd, rfl⟩⟩; refine ⟨_, rfl, ?_⟩))
    (try (rw [drewN_self w16]; generalize hq_ : World.drewN w16 _ = w16; have n0_ : Aside0 (Kd.R k39 39 w16 w.heap.size (fun k_ => some k_ ≠ (.slice Ao18 t385.length co18 : Value).ownBlock) (.slice Ao17 t381.length co17) t381) := ⟨by rw [← hq_]; exact (by (with_reducible repeat (first | apply Kd.R_alloc | apply Kd.R_drewN | apply Kd.R_drew)); exact Kd.R_mono HO383.out (fun _ hk => hk.2))⟩; have n1_ : Aside0 (Kd.R k39 39 w16 w.heap.size (fun k_ => some k_ ≠ (.slice Ao17 t381.length co17 : Value).ownBlock) (.slice Ao18 t385.length co18) t385) := ⟨by rw [← hq_]; exact (by (with_reducible repeat (first | apply Kd.R_alloc | apply Kd.R_drewN | apply Kd.R_drew)); exact Kd.R_mono HO387.out (fun _ hk => hk.2))⟩; have n2_ : Aside0 (w16.heap[gb379]? = some (.cells #[.int .u64 a0_0, .int .u64 a0_1, .int .u64 a0_2, .int .u64 a0_3, .string a0_4, .slice A0_5 l0_5.length c0_5] 30 (0, 0))) := ⟨by rw [← hq_]; exact (bx_ BK379)⟩; have n3_ : Aside0 (Below w.heap.size w w16) := ⟨by rw [← hq_]; exact (hx_ HB)⟩; clear HO383 HO387 BK379 HB hq_; have HO383 := n0_; have HO387 := n1_; have BK379 := n2_; have HB := n3_; clear n0_ n1_ n2_ n3_))
    have n0_ := am_ (Kd.R_drew HO383.out)
    have n1_ := am_ (Kd.R_drew HO387.out)
    have n2_ := am_ (blk_drew BK379.out)
    have n3_ := am_ (below_drew1 HB.out)
    clear HO383
    clear HO387
    clear BK379
    clear HB
    have HO383 := n0_
    have HO387 := n1_
    have BK379 := n2_
    have HB := n3_
    clear n0_ n1_ n2_ n3_
    refine start_ (n := 17) (S := fun w' => w'.cell? ⟨gb379, 0, none⟩ = some (.int .u64 a0_0) ∧ w'.cell? ⟨gb379, 1, none⟩ = some (.int .u64 a0_1) ∧ w'.cell? ⟨gb379, 2, none⟩ = some (.int .u64 a0_2) ∧ w'.cell? ⟨gb379, 3, none⟩ = some (.int .u64 a0_3) ∧ w'.cell? ⟨gb379, 4, none⟩ = some (.string a0_4) ∧ w'.cell? ⟨gb379, 5, none⟩ = some (.slice A0_5 l0_5.length c0_5)) (ds := []) bN0_ (by kernel_rfl) rfl rfl ⟨(blk_cell BK379.out 0).trans rfl, (blk_cell BK379.out 1).trans rfl, (blk_cell BK379.out 2).trans rfl, (blk_cell BK379.out 3).trans rfl, (blk_cell BK379.out 4).trans rfl, (blk_cell BK379.out 5).trans rfl⟩ (fun hHeld => ?_); refine with_tabW ferrulelaw04_NoteLeast.tab5 ferrulelaw04_NoteLeast.bits5 (fun HT_ HW_ => ?_)
    generalize w16.drew = w19 at HO383 HO387 BK379 HB hHeld ⊢
    refine pure_ (i := 0) (N := some 23) (v := ?_) (a' := ?_) bN1_ rfl rfl (any_of HT_.out (by kernel_rfl)) (fun _ _ _ h => h) (Or.inl ⟨by rfl, ?_⟩) ?_ ?_; rotate_left; (intro w'; go_simp; with_reducible rfl); rotate_left; (simp only [Act.put, List.setIfInBounds_toArray, List.set_cons_zero, List.set_cons_succ, i64_w, i32_w]; rfl)
    refine pure_ (i := 1) (N := some 24) (v := ?_) (a' := ?_) bN2_ rfl rfl (any_of HT_.out (by kernel_rfl)) (fun _ _ _ h => h) (Or.inl ⟨by rfl, ?_⟩) ?_ ?_; rotate_left; (intro w'; go_simp; with_reducible rfl); rotate_left; (simp only [Act.put, List.setIfInBounds_toArray, List.set_cons_zero, List.set_cons_succ, i64_w, i32_w]; rfl)
    refine pure_ (i := 2) (N := some 25) (v := ?_) (a' := ?_) bN3_ rfl rfl (any_of HT_.out (by kernel_rfl)) (fun _ _ _ h => h) (Or.inl ⟨by rfl, ?_⟩) ?_ ?_; rotate_left; (intro w'; go_simp; with_reducible rfl); rotate_left; (simp only [Act.put, List.setIfInBounds_toArray, List.set_cons_zero, List.set_cons_succ, i64_w, i32_w]; rfl)
    refine pure_ (i := 3) (N := some 26) (v := ?_) (a' := ?_) bN4_ rfl rfl (any_of HT_.out (by kernel_rfl)) (fun _ _ _ h => h) (Or.inl ⟨by rfl, ?_⟩) ?_ ?_; rotate_left; (intro w'; go_simp; with_reducible rfl); rotate_left; (simp only [Act.put, List.setIfInBounds_toArray, List.set_cons_zero, List.set_cons_succ, i64_w, i32_w]; rfl)
    refine pure_ (i := 4) (N := some 27) (v := ?_) (a' := ?_) bN5_ rfl rfl (any_of HT_.out (by kernel_rfl)) (fun _ _ _ h => h) (Or.inl ⟨by rfl, ?_⟩) ?_ ?_; rotate_left; (intro w'; go_simp; with_reducible rfl); rotate_left; (simp only [Act.put, List.setIfInBounds_toArray, List.set_cons_zero, List.set_cons_succ, i64_w, i32_w]; rfl)
    refine pure_ (i := 5) (N := some 28) (v := ?_) (a' := ?_) bN6_ rfl rfl (any_of HT_.out (by kernel_rfl)) (fun _ _ _ h => h) (Or.inl ⟨by rfl, ?_⟩) ?_ ?_; rotate_left; (intro w'; go_simp; with_reducible rfl); rotate_left; (simp only [Act.put, List.setIfInBounds_toArray, List.set_cons_zero, List.set_cons_succ, i64_w, i32_w]; rfl)
    refine pure_ (i := 6) (N := some 29) (v := ?_) (a' := ?_) bN7_ rfl rfl (any_of HT_.out (by kernel_rfl)) (fun _ _ _ h => h) (Or.inl ⟨by rfl, ?_⟩) ?_ ?_; rotate_left; (intro w'; go_simp; with_reducible rfl); rotate_left; (simp only [Act.put, List.setIfInBounds_toArray, List.set_cons_zero, List.set_cons_succ, i64_w, i32_w]; rfl)
    refine pure_ (i := 7) (N := some 30) (v := ?_) (a' := ?_) bN8_ rfl rfl (any_of HT_.out (by kernel_rfl)) (fun _ _ _ h => h) (Or.inl ⟨by rfl, ?_⟩) ?_ ?_; rotate_left; (intro w'; go_simp; with_reducible rfl); rotate_left; (simp only [Act.put, List.setIfInBounds_toArray, List.set_cons_zero, List.set_cons_succ, i64_w, i32_w]; rfl)
    refine pure_ (i := 8) (N := some 31) (v := ?_) (a' := ?_) bN9_ rfl rfl (any_of HT_.out (by kernel_rfl)) (fun _ _ _ h => h) (Or.inl ⟨by rfl, ?_⟩) ?_ ?_; rotate_left; (intro w'; go_simp; with_reducible rfl); rotate_left; (simp only [Act.put, List.setIfInBounds_toArray, List.set_cons_zero, List.set_cons_succ, i64_w, i32_w]; rfl)
    refine pure_ (i := 9) (N := some 32) (v := ?_) (a' := ?_) bN10_ rfl rfl (any_of HT_.out (by kernel_rfl)) (fun _ _ _ h => h) (Or.inl ⟨by rfl, ?_⟩) ?_ ?_; rotate_left; (intro w'; go_simp; with_reducible rfl); rotate_left; (simp only [Act.put, List.setIfInBounds_toArray, List.set_cons_zero, List.set_cons_succ, i64_w, i32_w]; rfl)
    refine take_ (i := 10) (N := some 33) (v := ?_) (a' := ?_) bN11_ rfl rfl (take_ofW HT_.out HW_.out (by kernel_rfl)) (fun _ _ _ h => h) (Or.inl ⟨by rfl, ?_⟩) hHeld ?_ ?_; rotate_left; (rintro w' ⟨s0, s1, s2, s3, s4, s5⟩; go_simp; with_reducible rfl); rotate_left; (simp only [Act.put, List.setIfInBounds_toArray, List.set_cons_zero, List.set_cons_succ, i64_w, i32_w]; rfl)
    refine take_ (i := 12) (N := some 35) (v := ?_) (a' := ?_) bN12_ rfl rfl (take_ofW HT_.out HW_.out (by kernel_rfl)) (fun _ _ _ h => h) (Or.inl ⟨by rfl, ?_⟩) hHeld ?_ ?_; rotate_left; (rintro w' ⟨s0, s1, s2, s3, s4, s5⟩; go_simp; with_reducible rfl); rotate_left; (simp only [Act.put, List.setIfInBounds_toArray, List.set_cons_zero, List.set_cons_succ, i64_w, i32_w]; rfl)
    refine one_ (i := 11) (N := some 34) bN13_ rfl rfl (one_of HT_.out (by kernel_rfl)) (by decide) (fun K hK => ?_)
    refine goes_ Try.func29 (by kernel_rfl) rfl #[.agg #[.int .u64 a0_0, .int .u64 a0_1, .int .u64 a0_2, .int .u64 a0_3, .string a0_4, .slice A0_5 l0_5.length c0_5]] (by rfl) rfl rfl (by (try simp only [List.map_toArray, List.map_cons, List.map_nil]); first | done | rfl | (simp only [List.length_drop, List.length_take]; rfl)) ?_
    with_reducible refine (note_May.calls k a0_0 a0_1 a0_2 a0_3 a0_4 _ _ l0_5 t390 _ ?side1 ?side2 A9.out).mono ?_
    (case side1 => repeat (first | exact (Kd.C_below HR0_5.out HB.out) | (with_reducible refine Kd.C_alloc ?_ _) | (with_reducible refine Kd.C_drewN ?_ _) | (with_reducible refine Kd.C_drew ?_)))
    (case side2 => exact HC0_5.out)
    rintro e w20 ⟨rfl, hb⟩
    refine ⟨_, rfl, ?_⟩
    have n0_ := am_ (Kd.R_below (rx_ HO383) hb)
    have n1_ := am_ (Kd.R_below (rx_ HO387) hb)
    have n2_ := am_ (blk_below (g := gb379) (o := .cells #[.int .u64 a0_0, .int .u64 a0_1, .int .u64 a0_2, .int .u64 a0_3, .string a0_4, .slice A0_5 l0_5.length c0_5] 30 (0, 0)) (bx_ BK379) hb)
    have n3_ := am_ (below_step (by repeat (first | (with_reducible first | exact HB.out | apply below_alloc | apply pw_below_drewN | apply below_drew1 | refine below_set ?_ GE379.out) | exact HB.out | exact Below.refl _ _)) hb)
    clear HO383
    clear HO387
    clear BK379
    clear HB
    have HO383 := n0_
    have HO387 := n1_
    have BK379 := n2_
    have HB := n3_
    clear n0_ n1_ n2_ n3_
    (try clear hb)
    (try clear hb2)
    (try clear hk)
    (try clear hi)
    refine hK.out _ _ ⟨(blk_cell BK379.out 0).trans rfl, (blk_cell BK379.out 1).trans rfl, (blk_cell BK379.out 2).trans rfl, (blk_cell BK379.out 3).trans rfl, (blk_cell BK379.out 4).trans rfl, (blk_cell BK379.out 5).trans rfl⟩ (fun hHeld => ?_)
    clear hK K
    refine norm_ (a' := ?_) ?_ ?_
    rotate_left
    ·show Act.put _ (some 34) _ = _
     simp only [Act.put, List.setIfInBounds_toArray, List.set_cons_zero, List.set_cons_succ, i64_w, i32_w]
     rfl
    refine one_ (i := 13) (N := some 36) bN14_ rfl rfl (one_of HT_.out (by kernel_rfl)) (by decide) (fun K hK => ?_)
    refine goes_ Try.func25 (by kernel_rfl) rfl #[.agg #[.int .u64 a0_0, .int .u64 a0_1, .int .u64 a0_2, .int .u64 a0_3, .string a0_4, .slice A0_5 l0_5.length c0_5]] (by rfl) rfl rfl (by (try simp only [List.map_toArray, List.map_cons, List.map_nil]); first | done | rfl | (simp only [List.length_drop, List.length_take]; rfl)) ?_
    with_reducible refine (ferruleref04_May.calls k a0_0 a0_1 a0_2 a0_3 a0_4 _ _ l0_5 t391 _ ?side1 ?side2 A10.out).mono ?_
    (case side1 => repeat (first | exact (Kd.C_below HR0_5.out HB.out) | (with_reducible refine Kd.C_alloc ?_ _) | (with_reducible refine Kd.C_drewN ?_ _) | (with_reducible refine Kd.C_drew ?_)))
    (case side2 => exact HC0_5.out)
    rintro e w21 ⟨rfl, hb⟩
    refine ⟨_, rfl, ?_⟩
    have n0_ := am_ (Kd.R_below (rx_ HO383) hb)
    have n1_ := am_ (Kd.R_below (rx_ HO387) hb)
    have n2_ := am_ (blk_below (g := gb379) (o := .cells #[.int .u64 a0_0, .int .u64 a0_1, .int .u64 a0_2, .int .u64 a0_3, .string a0_4, .slice A0_5 l0_5.length c0_5] 30 (0, 0)) (bx_ BK379) hb)
    have n3_ := am_ (below_step (by repeat (first | (with_reducible first | exact HB.out | apply below_alloc | apply pw_below_drewN | apply below_drew1 | refine below_set ?_ GE379.out) | exact HB.out | exact Below.refl _ _)) hb)
    clear HO383
    clear HO387
    clear BK379
    clear HB
    have HO383 := n0_
    have HO387 := n1_
    have BK379 := n2_
    have HB := n3_
    clear n0_ n1_ n2_ n3_
    (try clear hb)
    (try clear hb2)
    (try clear hk)
    (try clear hi)
    refine hK.out _ _ ⟨(blk_cell BK379.out 0).trans rfl, (blk_cell BK379.out 1).trans rfl, (blk_cell BK379.out 2).trans rfl, (blk_cell BK379.out 3).trans rfl, (blk_cell BK379.out 4).trans rfl, (blk_cell BK379.out 5).trans rfl⟩ (fun hHeld => ?_)
    clear hK K
    refine norm_ (a' := ?_) ?_ ?_
    rotate_left
    ·show Act.put _ (some 36) _ = _
     simp only [Act.put, List.setIfInBounds_toArray, List.set_cons_zero, List.set_cons_succ, i64_w, i32_w]
     rfl
    refine pure_ (i := 14) (N := some 37) (v := ?_) (a' := ?_) bN15_ rfl rfl (any_of HT_.out (by kernel_rfl)) (fun _ _ _ h => h) (Or.inl ⟨by rfl, ?_⟩) ?_ ?_; rotate_left; (intro w'; go_simp; with_reducible rfl); rotate_left; (simp only [Act.put, List.setIfInBounds_toArray, List.set_cons_zero, List.set_cons_succ, i64_w, i32_w]; rfl)
    refine pure_ (i := 15) (N := some 38) (v := ?_) (a' := ?_) bN16_ rfl rfl (any_of HT_.out (by kernel_rfl)) (fun _ _ _ h => h) (Or.inl ⟨by rfl, ?_⟩) ?_ ?_; rotate_left; (intro w'; go_simp; with_reducible rfl); rotate_left; (simp only [Act.put, List.setIfInBounds_toArray, List.set_cons_zero, List.set_cons_succ, i64_w, i32_w]; rfl)
    refine pure_ (i := 16) (N := some 2) (v := ?_) (a' := ?_) bN17_ rfl rfl (any_of HT_.out (by kernel_rfl)) (fun _ _ _ h => h) (Or.inl ⟨by rfl, ?_⟩) ?_ ?_; rotate_left; (intro w'; go_simp; with_reducible rfl); rotate_left; (simp only [Act.put, List.setIfInBounds_toArray, List.set_cons_zero, List.set_cons_succ, i64_w, i32_w]; rfl)
    refine done_ (done_of HT_.out (by kernel_rfl)) ?_
    try go_wp2
    go_ret
    exact ⟨by first | rfl | (simp [errW_none, errW_some] <;> rfl) | (simp [*, errW_none, errW_some] <;> rfl), hx_ HB⟩
   ·rw [if_neg c8] at H
    have c8b0 : (t384 == t388) = false := beq_eq_false_iff_ne.mpr c8
    have c8b1 : (t384 != t388) = true := bne_iff_ne.mpr c8
    exact absurd H (by simp)
  ·replace c7 := Bool.eq_false_iff.mpr c7
   subst c7
   have H1 : (none) = some r := by rw [if_neg (show ¬ (false = true) by decide)] at H; exact H
   clear H
   have H := H1
   clear H1
   exact absurd H (by simp)
 ·replace c6 := Bool.eq_false_iff.mpr c6
  subst c6
  have H1 : (none) = some r := by rw [if_neg (show ¬ (false = true) by decide)] at H; exact H
  clear H
  have H := H1
  clear H1
  exact absurd H (by simp)

end Go.Proofs.Ytfjhlcbpogihmaa.Pr
