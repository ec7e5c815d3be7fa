/- What the program's functions compute, and that they compute it: printed out of the translation by a program of this session's (px.py, over the kit's printer). Conditions: none. -/
import Derived.Test.YtfjhlcbpogihmaaGNoteBackPr0
import Derived.Test.YtfjhlcbpogihmaaKNoteBack3
import Derived.Test.YtfjhlcbpogihmaaGNoteBackHandFold
import Derived.Test.YtfjhlcbpogihmaaGNoteBackHandInst
import Derived.Test.YtfjhlcbpogihmaaGNoteBackHandRead
namespace Go.Proofs.Ytfjhlcbpogihmaa.Pr
open Go.RowKit Go.Proofs.YtfjhlcbpogihmaaW.PrintWords Go.Proofs.YtfjhlcbpogihmaaW.PrintLast Go.Proofs.YtfjhlcbpogihmaaW.PrintMore
attribute [local go_sem] max2_int min2_int max_two min_two max_three min_three max_four min_four
set_option linter.unusedVariables false
set_option linter.unusedSimpArgs false
/-! ### note_Recover: function 21 -/
def note_Recover.f (k : Nat) (a0_0 : ByteArray) (a0_1 : ByteArray) (a0_2 : Int) (a0_3 : Bool) : Option (Int × Int × Int × Int × ByteArray × (List (S75)) × ByteArray × ByteArray × Int × Bool × Int) := (tape_Read.f a0_0 a0_1 a0_2 a0_3).bind fun bt212 => (if bt212.2 = 0 then ((note_Read.f k bt212.1).bind fun bt214 => (if bt214.2 < (bt212.1.size : Int) then (if 0 ≤ bt214.2 then (if bt214.2 ≤ (bt212.1.size : Int) then ((tape_Install.f a0_0 a0_1 a0_2 a0_3 (bt212.1.extract 0 (bt214.2 : Int).toNat)).bind fun bt218 => (if bt218.2.2.2.2 = 0 then ((note_Fold.f bt214.1).bind fun bt223 => (some (bt223.1, bt223.2.1, bt223.2.2.1, bt223.2.2.2.1, bt223.2.2.2.2.1, bt223.2.2.2.2.2, bt218.1, bt218.2.1, bt218.2.2.1, bt218.2.2.2.1, 0))) else (some (0, 0, 0, 0, (⟨#[]⟩ : ByteArray), ([] : List (S75)), bt218.1, bt218.2.1, bt218.2.2.1, bt218.2.2.2.1, bt218.2.2.2.2)))) else (none)) else (none)) else ((note_Fold.f bt214.1).bind fun bt231 => (some (bt231.1, bt231.2.1, bt231.2.2.1, bt231.2.2.2.1, bt231.2.2.2.2.1, bt231.2.2.2.2.2, a0_0, a0_1, a0_2, a0_3, 0))))) else (some (0, 0, 0, 0, (⟨#[]⟩ : ByteArray), ([] : List (S75)), a0_0, a0_1, a0_2, a0_3, bt212.2)))
def note_Recover.T6 : Bool × List (List Nat × List Nat) := (true, [([], []), ([], []), ([], []), ([1, 2], [1, 2]), ([0, 3], [0, 3]), ([4], [4]), ([5], [5]), ([5], [5]), ([6, 4, 0, 1, 2, 3, 4, 5, 6], [6]), ([7, 8, 0, 1, 2, 3, 4, 5, 6, 7, 8], [7])])
def note_Recover.B6 : List Nat := [0, 0, 0, 6, 15, 31, 63, 63, 127, 511]
theorem note_Recover.tab6 : rtab .any (opsOf Try.f21 6) = note_Recover.T6 := by kernel_rfl
theorem note_Recover.bits6 : waitsOk note_Recover.T6.2 note_Recover.B6 = true := by kernel_rfl
namespace Sh20
theorem am_ {p : Prop} (h : p) : Aside0 p := ⟨h⟩
theorem bx_ {Q P : Prop} (b : Aside0 Q) (h : Q → P := by intro hq_; (with_reducible repeat (first | refine blk_drewN ?_ _ | refine blk_drew ?_ | refine blk_alloc ?_ _)); exact hq_) : P := h b.out
theorem hx_ {Q P : Prop} (b : Aside0 Q) (h : Q → P := by intro hq_; repeat (first | (with_reducible first | exact hq_ | apply below_alloc | apply pw_below_drewN | apply below_drew1 | refine below_set ?_ (Aside0.out (by assumption))) | exact hq_)) : P := h b.out
theorem fz_ {Q G P : Prop} (q : Q) (g : Aside0 G) (h : Q → G → P := by intro q_ g_; first | exact Nat.ne_of_lt (Nat.lt_of_lt_of_le (by have := World.block_lt_of_cell? _ _ q_; first | rwa [add_block] at this | exact this) g_) | (rw [add_block]; exact Nat.ne_of_lt (Nat.lt_of_lt_of_le (by have := World.block_lt_of_cell? _ _ q_; first | rwa [add_block] at this | exact this) g_)) | (show (Addr.add _ _).block ≠ _; rw [add_block]; exact Nat.ne_of_lt (Nat.lt_of_lt_of_le (by have := World.block_lt_of_cell? _ _ q_; first | rwa [add_block] at this | exact this) g_)) | (dsimp only; exact Nat.ne_of_lt (Nat.lt_of_lt_of_le (by have := World.block_lt_of_cell? _ _ q_; first | rwa [add_block] at this | exact this) g_))) : P := h q g.out
theorem vx_ {Q P : Prop} (b : Aside0 Q) (h : Q → P := by intro hq_; (with_reducible repeat (first | apply Kd.V_alloc | apply Kd.V_drewN | apply Kd.V_drew)); exact hq_) : P := h b.out
theorem rx_ {Q P : Prop} (b : Aside0 Q) (h : Q → P := by intro hq_; (with_reducible repeat (first | apply Kd.R_alloc | apply Kd.R_drewN | apply Kd.R_drew)); exact hq_) : P := h b.out
theorem nx_ {Q P : Prop} (b : Aside0 Q) (h : Q → P := by intro hq_; (with_reducible repeat (first | apply Kd.N_alloc | apply Kd.N_drewN | apply Kd.N_drew)); exact hq_) : P := h b.out
abbrev bN0_ : Array Bool := #[false, false, false, false, false, false, false, false, false, false]
abbrev bN1_ : Array Bool := #[false, true, false, false, false, false, false, false, false, false]
abbrev bN2_ : Array Bool := #[false, true, true, false, false, false, false, false, false, false]
abbrev bN3_ : Array Bool := #[false, true, true, true, false, false, false, false, false, false]
abbrev bN4_ : Array Bool := #[true, true, true, true, false, false, false, false, false, false]
abbrev bN5_ : Array Bool := #[true, true, true, true, true, false, false, false, false, false]
abbrev bN6_ : Array Bool := #[true, true, true, true, true, true, false, false, false, false]
abbrev bN7_ : Array Bool := #[true, true, true, true, true, true, true, false, false, false]
abbrev bN8_ : Array Bool := #[true, true, true, true, true, true, true, true, false, false]
abbrev bN9_ : Array Bool := #[true, true, true, true, true, true, true, true, true, false]
abbrev bN10_ : Array Bool := #[true, true, true, true, true, true, true, true, true, true]
abbrev bN11_ : Array Bool := #[false, false, false, false, false, false]
abbrev bN12_ : Array Bool := #[true, false, false, false, false, false]
abbrev bN13_ : Array Bool := #[true, false, true, false, false, false]
abbrev bN14_ : Array Bool := #[true, true, true, false, false, false]
theorem hy_ {Q P : Prop} (b : Aside0 Q) (h : Q → P := by intro hq_; repeat (first | (with_reducible first | exact hq_ | apply below_alloc | apply pw_below_drewN | apply below_drew1 | refine below_set ?_ (Aside0.out (by assumption))) | exact hq_ | exact Below.refl _ _)) : P := h b.out
theorem bb_ {w w1 w2 : World} {g : Nat} {o : Obj} (b : Aside0 (w.heap[g]? = some o)) (hb : Below w1.heap.size w1 w2) (h : w.heap[g]? = some o → w1.heap[g]? = some o := by intro hq_; (with_reducible repeat (first | refine blk_drewN ?_ _ | refine blk_drew ?_ | refine blk_alloc ?_ _)); exact hq_) : w2.heap[g]? = some o := blk_below (h b.out) hb
theorem bl_ {w w1 : World} {g : Nat} {o : Obj} (b : Aside0 (w.heap[g]? = some o)) (h : w.heap[g]? = some o → w1.heap[g]? = some o := by intro hq_; (with_reducible repeat (first | refine blk_drewN ?_ _ | refine blk_drew ?_ | refine blk_alloc ?_ _)); exact hq_) : g < w1.heap.size := blk_lt (h b.out)
end Sh20
open Sh20
set_option maxHeartbeats 8000000 in
set_option maxRecDepth 100000 in
theorem note_Recover.calls (k : Nat) (a0_0 : ByteArray) (a0_1 : ByteArray) (a0_2 : Int) (a0_3 : Bool) (r1 : Int) (r2 : Int) (r3 : Int) (r4 : Int) (r5 : ByteArray) (r6 : List (S75)) (r7 : ByteArray) (r8 : ByteArray) (r9 : Int) (r10 : Bool) (r11 : Int) (w : World) (h : note_Recover.f k a0_0 a0_1 a0_2 a0_3 = some (r1, r2, r3, r4, r5, r6, r7, r8, r9, r10, r11)) :
  Calls Try.prog 21 #[.agg #[.string a0_0, .string a0_1, .int .i64 a0_2, .bool a0_3]] w fun e w' => ∃ v5_ : Value, e = .returned (.tuple #[.agg #[.int .u64 r1, .int .u64 r2, .int .u64 r3, .int .u64 r4, .string r5, v5_], .agg #[.string r7, .string r8, .int .i64 r9, .bool r10], .int .i64 r11]) ∧ Kd.R k75 75 w' w.heap.size (fun _ => True) v5_ r6 ∧ Below w.heap.size w w' := by
 have hu34 := Try.underlying34
 have hu30 := Try.underlying30
 have HB := am_ (Below.refl w.heap.size w)
 have H : ((tape_Read.f a0_0 a0_1 a0_2 a0_3).bind fun bt212 => (if bt212.2 = 0 then ((note_Read.f k bt212.1).bind fun bt214 => (if bt214.2 < (bt212.1.size : Int) then (if 0 ≤ bt214.2 then (if bt214.2 ≤ (bt212.1.size : Int) then ((tape_Install.f a0_0 a0_1 a0_2 a0_3 (bt212.1.extract 0 (bt214.2 : Int).toNat)).bind fun bt218 => (if bt218.2.2.2.2 = 0 then ((note_Fold.f bt214.1).bind fun bt223 => (some (bt223.1, bt223.2.1, bt223.2.2.1, bt223.2.2.2.1, bt223.2.2.2.2.1, bt223.2.2.2.2.2, bt218.1, bt218.2.1, bt218.2.2.1, bt218.2.2.2.1, 0))) else (some (0, 0, 0, 0, (⟨#[]⟩ : ByteArray), ([] : List (S75)), bt218.1, bt218.2.1, bt218.2.2.1, bt218.2.2.2.1, bt218.2.2.2.2)))) else (none)) else (none)) else ((note_Fold.f bt214.1).bind fun bt231 => (some (bt231.1, bt231.2.1, bt231.2.2.1, bt231.2.2.2.1, bt231.2.2.2.2.1, bt231.2.2.2.2.2, a0_0, a0_1, a0_2, a0_3, 0))))) else (some (0, 0, 0, 0, (⟨#[]⟩ : ByteArray), ([] : List (S75)), a0_0, a0_1, a0_2, a0_3, bt212.2)))) = some (r1, r2, r3, r4, r5, r6, r7, r8, r9, r10, r11) := h
 clear h
 replace H := Option.bind_eq_some_iff.mp H
 obtain ⟨⟨t212, t213⟩, A20, H⟩ := H
 replace H : (if t213 = 0 then ((note_Read.f k t212).bind fun bt214 => (if bt214.2 < (t212.size : Int) then (if 0 ≤ bt214.2 then (if bt214.2 ≤ (t212.size : Int) then ((tape_Install.f a0_0 a0_1 a0_2 a0_3 (t212.extract 0 (bt214.2 : Int).toNat)).bind fun bt218 => (if bt218.2.2.2.2 = 0 then ((note_Fold.f bt214.1).bind fun bt223 => (some (bt223.1, bt223.2.1, bt223.2.2.1, bt223.2.2.2.1, bt223.2.2.2.2.1, bt223.2.2.2.2.2, bt218.1, bt218.2.1, bt218.2.2.1, bt218.2.2.2.1, 0))) else (some (0, 0, 0, 0, (⟨#[]⟩ : ByteArray), ([] : List (S75)), bt218.1, bt218.2.1, bt218.2.2.1, bt218.2.2.2.1, bt218.2.2.2.2)))) else (none)) else (none)) else ((note_Fold.f bt214.1).bind fun bt231 => (some (bt231.1, bt231.2.1, bt231.2.2.1, bt231.2.2.2.1, bt231.2.2.2.2.1, bt231.2.2.2.2.2, a0_0, a0_1, a0_2, a0_3, 0))))) else (some (0, 0, 0, 0, (⟨#[]⟩ : ByteArray), ([] : List (S75)), a0_0, a0_1, a0_2, a0_3, t213))) = some (r1, r2, r3, r4, r5, r6, r7, r8, r9, r10, r11) := H
 have A2 := am_ A20
 clear A20
 by_cases c3 : t213 = 0
 ·rw [if_pos c3] at H
  have c3b0 : (t213 == 0) = true := beq_iff_eq.mpr c3
  have c3b1 : (t213 != 0) = false := bne_eq_false_iff_eq.mpr c3
  clear c3
  replace H := Option.bind_eq_some_iff.mp H
  obtain ⟨⟨t214, t215⟩, A40, H⟩ := H
  replace H : (if t215 < (t212.size : Int) then (if 0 ≤ t215 then (if t215 ≤ (t212.size : Int) then ((tape_Install.f a0_0 a0_1 a0_2 a0_3 (t212.extract 0 (t215 : Int).toNat)).bind fun bt218 => (if bt218.2.2.2.2 = 0 then ((note_Fold.f t214).bind fun bt223 => (some (bt223.1, bt223.2.1, bt223.2.2.1, bt223.2.2.2.1, bt223.2.2.2.2.1, bt223.2.2.2.2.2, bt218.1, bt218.2.1, bt218.2.2.1, bt218.2.2.2.1, 0))) else (some (0, 0, 0, 0, (⟨#[]⟩ : ByteArray), ([] : List (S75)), bt218.1, bt218.2.1, bt218.2.2.1, bt218.2.2.2.1, bt218.2.2.2.2)))) else (none)) else (none)) else ((note_Fold.f t214).bind fun bt231 => (some (bt231.1, bt231.2.1, bt231.2.2.1, bt231.2.2.2.1, bt231.2.2.2.2.1, bt231.2.2.2.2.2, a0_0, a0_1, a0_2, a0_3, 0)))) = some (r1, r2, r3, r4, r5, r6, r7, r8, r9, r10, r11) := H
  have A4 := am_ A40
  clear A40
  by_cases c5 : t215 < (t212.size : Int)
  ·rw [if_pos c5] at H
   have c5b0 : decide (t215 < (t212.size : Int)) = true := decide_eq_true c5
   clear c5
   by_cases c6 : 0 ≤ t215
   ·rw [if_pos c6] at H
    have c6b0 := eq_true c6
    have c6b1 : decide (0 ≤ t215) = true := decide_eq_true c6
    clear c6
    by_cases c7 : t215 ≤ (t212.size : Int)
    ·rw [if_pos c7] at H
     have c7b0 := eq_true c7
     have c7b1 : decide (t215 ≤ (t212.size : Int)) = true := decide_eq_true c7
     clear c7
     replace H := Option.bind_eq_some_iff.mp H
     obtain ⟨⟨t218, t219, t220, t221, t222⟩, A80, H⟩ := H
     replace H : (if t222 = 0 then ((note_Fold.f t214).bind fun bt223 => (some (bt223.1, bt223.2.1, bt223.2.2.1, bt223.2.2.2.1, bt223.2.2.2.2.1, bt223.2.2.2.2.2, t218, t219, t220, t221, 0))) else (some (0, 0, 0, 0, (⟨#[]⟩ : ByteArray), ([] : List (S75)), t218, t219, t220, t221, t222))) = some (r1, r2, r3, r4, r5, r6, r7, r8, r9, r10, r11) := H
     have A8 := am_ A80
     clear A80
     by_cases c9 : t222 = 0
     ·rw [if_pos c9] at H
      have c9b0 : (t222 == 0) = true := beq_iff_eq.mpr c9
      have c9b1 : (t222 != 0) = false := bne_eq_false_iff_eq.mpr c9
      clear c9
      replace H := Option.bind_eq_some_iff.mp H
      obtain ⟨⟨t223, t224, t225, t226, t227, t228⟩, A100, H⟩ := H
      replace H : (some (t223, t224, t225, t226, t227, t228, t218, t219, t220, t221, 0)) = some (r1, r2, r3, r4, r5, r6, r7, r8, r9, r10, r11) := H
      have A10 := am_ A100
      clear A100
      simp only [Option.some.injEq, Prod.mk.injEq] at H
      obtain ⟨rfl, rfl, rfl, rfl, rfl, rfl, rfl, rfl, rfl, rfl, rfl⟩ := H
      go_enter Try.func21, Try.ntmps21
      try go_wp2_with (first | ((with_reducible refine gate_dst (N := 1) rfl ?_); refine box_event ?hg (N := 1) ?hd (cs := #[.string a0_0, .string a0_1, .int .i64 a0_2, .bool a0_3]) (t := 34) ?hr ?_; (case hd => rfl); (case hg => rfl); (case hr => first | (go_simp; done) | (go_simp; rfl)); intro gb209 hg w11 hbox hb; have n0_ := am_ (below_step (hy_ HB) hb); have n1_ := am_ (hbox); have n2_ := am_ ((by rw [hg]; exact (below_size (hx_ HB)) : w.heap.size ≤ gb209)); have n3_ := am_ ((by rw [hg]; exact (below_size (hx_ HB)) : w.heap.size ≤ gb209)); clear HB; have HB := n0_; have BK209 := n1_; have GW209 := n2_; have GE209 := n3_; clear n0_ n1_ n2_ n3_; clear hb hbox hg) | ((with_reducible refine gate_dst (N := 2) rfl ?_); refine box_event ?hg (N := 2) ?hd (cs := #[.int .u64 0, .int .u64 0, .int .u64 0, .int .u64 0, .string (⟨#[]⟩ : ByteArray), .slice none 0 0]) (t := 30) ?hr ?_; (case hd => rfl); (case hg => rfl); (case hr => first | (go_simp; done) | (go_simp; rfl)); intro gb210 hg w12 hbox hb; have n0_ := am_ (bb_ BK209 hb); have n1_ := am_ (below_step (hy_ HB) hb); have n2_ := am_ (hbox); have n3_ := am_ ((by rw [hg]; exact (below_size (hx_ HB)) : w.heap.size ≤ gb210)); have n4_ := am_ ((by rw [hg]; exact (below_size (hx_ HB)) : w.heap.size ≤ gb210)); have n5_ := am_ ((by rw [hg]; exact Nat.ne_of_lt (bl_ BK209) : gb209 ≠ gb210)); have n6_ := am_ ((by rw [hg]; exact Nat.ne_of_gt (bl_ BK209) : gb210 ≠ gb209)); clear BK209 HB; have BK209 := n0_; have HB := n1_; have BK210 := n2_; have GW210 := n3_; have GE210 := n4_; have NB209_210 := n5_; have NB210_209 := n6_; clear n0_ n1_ n2_ n3_ n4_ n5_ n6_; clear hb hbox hg) | ((with_reducible refine gate_dst (N := 3) rfl ?_); refine box_event ?hg (N := 3) ?hd (cs := #[.string (⟨#[]⟩ : ByteArray), .string (⟨#[]⟩ : ByteArray), .int .i64 0, .bool false]) (t := 34) ?hr ?_; (case hd => rfl); (case hg => rfl); (case hr => first | (go_simp; done) | (go_simp; rfl)); intro gb211 hg w13 hbox hb; have n0_ := am_ (bb_ BK209 hb); have n1_ := am_ (bb_ BK210 hb); have n2_ := am_ (below_step (hy_ HB) hb); have n3_ := am_ (hbox); have n4_ := am_ ((by rw [hg]; exact (below_size (hx_ HB)) : w.heap.size ≤ gb211)); have n5_ := am_ ((by rw [hg]; exact (below_size (hx_ HB)) : w.heap.size ≤ gb211)); have n6_ := am_ ((by rw [hg]; exact Nat.ne_of_lt (bl_ BK209) : gb209 ≠ gb211)); have n7_ := am_ ((by rw [hg]; exact Nat.ne_of_gt (bl_ BK209) : gb211 ≠ gb209)); have n8_ := am_ ((by rw [hg]; exact Nat.ne_of_lt (bl_ BK210) : gb210 ≠ gb211)); have n9_ := am_ ((by rw [hg]; exact Nat.ne_of_gt (bl_ BK210) : gb211 ≠ gb210)); clear BK209 BK210 HB; have BK209 := n0_; have BK210 := n1_; have HB := n2_; have BK211 := n3_; have GW211 := n4_; have GE211 := n5_; have NB209_211 := n6_; have NB211_209 := n7_; have NB210_211 := n8_; have NB211_210 := n9_; clear n0_ n1_ n2_ n3_ n4_ n5_ n6_ n7_ n8_ n9_; clear hb hbox hg; have hnb14 := NB209_210.out; have hnc14 := NB210_209.out; have hnb15 := NB209_211.out; have hnc15 := NB211_209.out; have hcz16_0 : w13.cell? ⟨gb209, 0, none⟩ = some (.string a0_0) := (blk_cell BK209.out 0).trans rfl; have hcz16_1 : w13.cell? ⟨gb209, 1, none⟩ = some (.string a0_1) := (blk_cell BK209.out 1).trans rfl; have hcz16_2 : w13.cell? ⟨gb209, 2, none⟩ = some (.int .i64 a0_2) := (blk_cell BK209.out 2).trans rfl; have hcz16_3 : w13.cell? ⟨gb209, 3, none⟩ = some (.bool a0_3) := (blk_cell BK209.out 3).trans rfl; have hfz16_0 := blk_frozen BK209.out 0; have hfz16_1 := blk_frozen BK209.out 1; have hfz16_2 := blk_frozen BK209.out 2; have hfz16_3 := blk_frozen BK209.out 3) | ((with_reducible refine gate_callee (f := 49) rfl ?_); refine goesL_ (some 11) rfl rfl Try.func49 (by kernel_rfl) rfl #[.agg #[.string a0_0, .string a0_1, .int .i64 a0_2, .bool a0_3]] rfl (by (try simp only [List.map_toArray, List.map_cons, List.map_nil]); first | done | rfl | (simp only [List.length_drop, List.length_take]; rfl)) ?_; (with_reducible refine (tape_Read.calls a0_0 a0_1 a0_2 a0_3 t212 t213 _ A2.out).mono ?_); rintro e w17 ⟨rfl, hb⟩; refine ⟨_, rfl, ?_⟩; have n0_ := am_ (bb_ BK209 hb); have n1_ := am_ (bb_ BK210 hb); have n2_ := am_ (bb_ BK211 hb); have n3_ := am_ (below_step (hy_ HB) hb); clear BK209 BK210 BK211 HB; have BK209 := n0_; have BK210 := n1_; have BK211 := n2_; have HB := n3_; clear n0_ n1_ n2_ n3_; (try clear hb); (try clear hb2); (try clear hk); (try clear hi)) | ((with_reducible refine gate_callee (f := 23) rfl ?_); refine goesL_ (some 21) rfl rfl Try.func23 (by kernel_rfl) rfl #[.string t212] rfl (by (try simp only [List.map_toArray, List.map_cons, List.map_nil]); first | done | rfl | (simp only [List.length_drop, List.length_take]; rfl)) ?_; (with_reducible refine (note_Read.calls k t212 t214 t215 _ A4.out).mono ?_); rintro e w18 ⟨v216, rfl, ho0, hb⟩; refine ⟨_, rfl, ?_⟩; have n0_ := am_ (Kd.R_lower ho0 (below_size (hx_ HB))); have n1_ := am_ (bb_ BK209 hb); have n2_ := am_ (bb_ BK210 hb); have n3_ := am_ (bb_ BK211 hb); have n4_ := am_ (below_step (hy_ HB) hb); clear BK209 BK210 BK211 HB; have HO217 := n0_; have BK209 := n1_; have BK210 := n2_; have BK211 := n3_; have HB := n4_; clear n0_ n1_ n2_ n3_ n4_; (try clear hb); (try clear hb2); (try clear hk); (try clear hi); (try clear ho0)))
      have n0_ := am_ (Kd.R_drew HO217.out)
      have n1_ := am_ (blk_drew BK209.out)
      have n2_ := am_ (blk_drew BK210.out)
      have n3_ := am_ (blk_drew BK211.out)
      have n4_ := am_ (below_drew1 HB.out)
      clear HO217
      clear BK209
      clear BK210
      clear BK211
      clear HB
      have HO217 := n0_
      have BK209 := n1_
      have BK210 := n2_
      have BK211 := n3_
      have HB := n4_
      clear n0_ n1_ n2_ n3_ n4_
      refine start_ (n := 10) (S := fun w' => w'.cell? ⟨gb209, 0, none⟩ = some (.string a0_0) ∧ w'.cell? ⟨gb209, 1, none⟩ = some (.string a0_1) ∧ w'.cell? ⟨gb209, 2, none⟩ = some (.int .i64 a0_2) ∧ w'.cell? ⟨gb209, 3, none⟩ = some (.bool a0_3)) (ds := [8]) bN0_ (by kernel_rfl) rfl rfl ⟨(blk_cell BK209.out 0).trans rfl, (blk_cell BK209.out 1).trans rfl, (blk_cell BK209.out 2).trans rfl, (blk_cell BK209.out 3).trans rfl⟩ (fun hHeld => ?_); refine with_tabW note_Recover.tab6 note_Recover.bits6 (fun HT_ HW_ => ?_)
      generalize w18.drew = w19 at HO217 BK209 BK210 BK211 HB hHeld ⊢
      refine pure_ (i := 1) (N := some 30) (v := ?_) (a' := ?_) bN1_ rfl rfl (any_of HT_.out (by kernel_rfl)) (fun _ _ _ h => h) (Or.inl ⟨by rfl, ?_⟩) ?_ ?_; rotate_left; (intro w'; go_simp; with_reducible rfl); rotate_left; (simp only [Act.put, List.setIfInBounds_toArray, List.set_cons_zero, List.set_cons_succ, i64_w, i32_w]; rfl)
      refine pure_ (i := 2) (N := some 31) (v := ?_) (a' := ?_) bN2_ rfl rfl (any_of HT_.out (by kernel_rfl)) (fun _ _ _ h => h) (Or.inl ⟨by rfl, ?_⟩) ?_ ?_; rotate_left; (intro w'; go_simp; with_reducible rfl); rotate_left; (simp only [Act.put, List.setIfInBounds_toArray, List.set_cons_zero, List.set_cons_succ, i64_w, i32_w]; rfl)
      refine pure_ (i := 3) (N := some 32) (v := ?_) (a' := ?_) bN3_ rfl rfl (any_of HT_.out (by kernel_rfl)) (fun _ _ _ h => h) (Or.inl ⟨by rfl, ?_⟩) ?_ ?_; rotate_left; (intro w'; go_simp; with_reducible rfl); rotate_left; (simp only [Act.put, List.setIfInBounds_toArray, List.set_cons_zero, List.set_cons_succ, i64_w, i32_w]; rfl)
      refine take_ (i := 0) (N := some 29) (v := ?_) (a' := ?_) bN4_ rfl rfl (take_ofW HT_.out HW_.out (by kernel_rfl)) (fun _ _ _ h => h) (Or.inl ⟨by rfl, ?_⟩) hHeld ?_ ?_; rotate_left; (rintro w' ⟨s0, s1, s2, s3⟩; go_simp; with_reducible rfl); rotate_left; (simp only [Act.put, List.setIfInBounds_toArray, List.set_cons_zero, List.set_cons_succ, i64_w, i32_w]; rfl)
      refine one_ (i := 4) (N := some 33) bN5_ rfl rfl (one_of HT_.out (by kernel_rfl)) (by decide) (fun K hK => ?_)
      refine goes_ Try.func50 (by kernel_rfl) rfl #[.agg #[.string a0_0, .string a0_1, .int .i64 a0_2, .bool a0_3], .string (t212.extract 0 (t215 : Int).toNat)] (by rfl) rfl rfl (by (try simp only [List.map_toArray, List.map_cons, List.map_nil]); first | done | rfl | (simp only [List.length_drop, List.length_take]; rfl)) ?_
      with_reducible refine (tape_Install.calls a0_0 a0_1 a0_2 a0_3 (t212.extract 0 (t215 : Int).toNat) t218 t219 t220 t221 t222 _ A8.out).mono ?_
      rintro e w20 ⟨rfl, hb⟩
      refine ⟨_, rfl, ?_⟩
      have n0_ := am_ (Kd.R_below (rx_ HO217) hb)
      have n1_ := am_ (bb_ BK209 hb)
      have n2_ := am_ (bb_ BK210 hb)
      have n3_ := am_ (bb_ BK211 hb)
      have n4_ := am_ (below_step (hy_ HB) hb)
      clear HO217
      clear BK209
      clear BK210
      clear BK211
      clear HB
      have HO217 := n0_
      have BK209 := n1_
      have BK210 := n2_
      have BK211 := n3_
      have HB := n4_
      clear n0_ n1_ n2_ n3_ n4_
      (try clear hb)
      (try clear hb2)
      (try clear hk)
      (try clear hi)
      refine hK.out _ _ ⟨(blk_cell BK209.out 0).trans rfl, (blk_cell BK209.out 1).trans rfl, (blk_cell BK209.out 2).trans rfl, (blk_cell BK209.out 3).trans rfl⟩ (fun hHeld => ?_)
      clear hK K
      refine norm_ (a' := ?_) ?_ ?_
      rotate_left
      ·show Act.put _ (some 33) _ = _
       simp only [Act.put, List.setIfInBounds_toArray, List.set_cons_zero, List.set_cons_succ, i64_w, i32_w]
       rfl
      refine pure_ (i := 5) (N := some 28) (v := ?_) (a' := ?_) bN6_ rfl rfl (any_of HT_.out (by kernel_rfl)) (fun _ _ _ h => h) (Or.inl ⟨by rfl, ?_⟩) ?_ ?_; rotate_left; (intro w'; go_simp; with_reducible rfl); rotate_left; (simp only [Act.put, List.setIfInBounds_toArray, List.set_cons_zero, List.set_cons_succ, i64_w, i32_w]; rfl)
      refine pure_ (i := 6) (N := some 34) (v := ?_) (a' := ?_) bN7_ rfl rfl (any_of HT_.out (by kernel_rfl)) (fun _ _ _ h => h) (Or.inl ⟨by rfl, ?_⟩) ?_ ?_; rotate_left; (intro w'; go_simp; with_reducible rfl); rotate_left; (simp only [Act.put, List.setIfInBounds_toArray, List.set_cons_zero, List.set_cons_succ, i64_w, i32_w]; rfl)
      refine pure_ (i := 7) (N := some 35) (v := ?_) (a' := ?_) bN8_ rfl rfl (any_of HT_.out (by kernel_rfl)) (fun _ _ _ h => h) (Or.inl ⟨by rfl, ?_⟩) ?_ ?_; rotate_left; (intro w'; go_simp; with_reducible rfl); rotate_left; (simp only [Act.put, List.setIfInBounds_toArray, List.set_cons_zero, List.set_cons_succ, i64_w, i32_w]; rfl)
      refine last_ (i := 8) (N := none) bN9_ rfl rfl (one_of HT_.out (by kernel_rfl)) (by decide) (fun K hK => ?_)
      have hs21 : w20.cell? ⟨gb209, 0, none⟩ = some (.string a0_0) := (blk_cell BK209.out 0).trans rfl
      have hfs21 := blk_frozen BK209.out 0
      have hns21_1 := NB210_209.out
      have hns21_2 := NB211_209.out
      have hms21_1 := NB209_210.out
      have hms21_2 := NB209_211.out
      have hs22 : w20.cell? ⟨gb209, 1, none⟩ = some (.string a0_1) := (blk_cell BK209.out 1).trans rfl
      have hfs22 := blk_frozen BK209.out 1
      have hns22_1 := NB210_209.out
      have hns22_2 := NB211_209.out
      have hms22_1 := NB209_210.out
      have hms22_2 := NB209_211.out
      have hs23 : w20.cell? ⟨gb209, 2, none⟩ = some (.int .i64 a0_2) := (blk_cell BK209.out 2).trans rfl
      have hfs23 := blk_frozen BK209.out 2
      have hns23_1 := NB210_209.out
      have hns23_2 := NB211_209.out
      have hms23_1 := NB209_210.out
      have hms23_2 := NB209_211.out
      have hs24 : w20.cell? ⟨gb209, 3, none⟩ = some (.bool a0_3) := (blk_cell BK209.out 3).trans rfl
      have hfs24 := blk_frozen BK209.out 3
      have hns24_1 := NB210_209.out
      have hns24_2 := NB211_209.out
      have hms24_1 := NB209_210.out
      have hms24_2 := NB209_211.out
      refine skip_ (w1 := ?_) (by rfl) rfl ?_ ?_
      rotate_left
      ·go_simp
       rfl
      refine hK.out _ _ ?_
      clear hK K
      refine pure_ (i := 9) (N := some 6) (v := ?_) (a' := ?_) bN10_ rfl rfl (any_of HT_.out (by kernel_rfl)) (fun _ _ _ h => h) (Or.inl ⟨by rfl, ?_⟩) ?_ ?_; rotate_left; (intro w'; go_simp; with_reducible rfl); rotate_left; (simp only [Act.put, List.setIfInBounds_toArray, List.set_cons_zero, List.set_cons_succ, i64_w, i32_w]; rfl)
      refine done_ (done_of HT_.out (by kernel_rfl)) ?_
      try go_wp2
      have n0_ : Aside0 (Kd.R k39 39 ((((w20.setCell ⟨gb209, 0, none⟩ (.string t218)).setCell ⟨gb209, 1, none⟩ (.string t219)).setCell ⟨gb209, 2, none⟩ (.int .i64 t220)).setCell ⟨gb209, 3, none⟩ (.bool t221)) w.heap.size (fun _ => True) v216 t214) := ⟨by (with_reducible repeat (first | apply Kd.R_alloc | apply Kd.R_drewN | apply Kd.R_drew)); exact Kd.R_mono (Kd.R_far (p := ⟨gb209, 3, none⟩) (Kd.R_far (p := ⟨gb209, 2, none⟩) (Kd.R_far (p := ⟨gb209, 1, none⟩) (Kd.R_far (p := ⟨gb209, 0, none⟩) (Kd.R_types HO217.out BK209.out (by decide)) (fun _ hk => hk.2) (.string t218)) (fun _ hk => hk.2) (.string t219)) (fun _ hk => hk.2) (.int .i64 t220)) (fun _ hk => hk.2) (.bool t221)) (fun _ hk => trivial)⟩
      have n1_ : Aside0 (((((w20.setCell ⟨gb209, 0, none⟩ (.string t218)).setCell ⟨gb209, 1, none⟩ (.string t219)).setCell ⟨gb209, 2, none⟩ (.int .i64 t220)).setCell ⟨gb209, 3, none⟩ (.bool t221)).heap[gb209]? = some (.cells #[.string t218, .string t219, .int .i64 t220, .bool t221] 34 (0, 0))) := ⟨by (with_reducible repeat (first | refine blk_drewN ?_ _ | refine blk_drew ?_ | refine blk_alloc ?_ _)); refine blk_put (cs := #[.string t218, .string t219, .int .i64 t220, .bool a0_3]) ?_ 3 _ rfl; (with_reducible repeat (first | refine blk_drewN ?_ _ | refine blk_drew ?_ | refine blk_alloc ?_ _)); refine blk_put (cs := #[.string t218, .string t219, .int .i64 a0_2, .bool a0_3]) ?_ 2 _ rfl; (with_reducible repeat (first | refine blk_drewN ?_ _ | refine blk_drew ?_ | refine blk_alloc ?_ _)); refine blk_put (cs := #[.string t218, .string a0_1, .int .i64 a0_2, .bool a0_3]) ?_ 1 _ rfl; (with_reducible repeat (first | refine blk_drewN ?_ _ | refine blk_drew ?_ | refine blk_alloc ?_ _)); refine blk_put (cs := #[.string a0_0, .string a0_1, .int .i64 a0_2, .bool a0_3]) ?_ 0 _ rfl; (with_reducible repeat (first | refine blk_drewN ?_ _ | refine blk_drew ?_ | refine blk_alloc ?_ _)); exact BK209.out⟩
      have n2_ : Aside0 (((((w20.setCell ⟨gb209, 0, none⟩ (.string t218)).setCell ⟨gb209, 1, none⟩ (.string t219)).setCell ⟨gb209, 2, none⟩ (.int .i64 t220)).setCell ⟨gb209, 3, none⟩ (.bool t221)).heap[gb210]? = some (.cells #[.int .u64 0, .int .u64 0, .int .u64 0, .int .u64 0, .string (⟨#[]⟩ : ByteArray), .slice none 0 0] 30 (0, 0))) := ⟨by (with_reducible repeat (first | refine blk_drewN ?_ _ | refine blk_drew ?_ | refine blk_alloc ?_ _)); refine blk_far ?_ NB210_209.out _; (with_reducible repeat (first | refine blk_drewN ?_ _ | refine blk_drew ?_ | refine blk_alloc ?_ _)); refine blk_far ?_ NB210_209.out _; (with_reducible repeat (first | refine blk_drewN ?_ _ | refine blk_drew ?_ | refine blk_alloc ?_ _)); refine blk_far ?_ NB210_209.out _; (with_reducible repeat (first | refine blk_drewN ?_ _ | refine blk_drew ?_ | refine blk_alloc ?_ _)); refine blk_far ?_ NB210_209.out _; (with_reducible repeat (first | refine blk_drewN ?_ _ | refine blk_drew ?_ | refine blk_alloc ?_ _)); exact BK210.out⟩
      have n3_ : Aside0 (((((w20.setCell ⟨gb209, 0, none⟩ (.string t218)).setCell ⟨gb209, 1, none⟩ (.string t219)).setCell ⟨gb209, 2, none⟩ (.int .i64 t220)).setCell ⟨gb209, 3, none⟩ (.bool t221)).heap[gb211]? = some (.cells #[.string (⟨#[]⟩ : ByteArray), .string (⟨#[]⟩ : ByteArray), .int .i64 0, .bool false] 34 (0, 0))) := ⟨by (with_reducible repeat (first | refine blk_drewN ?_ _ | refine blk_drew ?_ | refine blk_alloc ?_ _)); refine blk_far ?_ NB211_209.out _; (with_reducible repeat (first | refine blk_drewN ?_ _ | refine blk_drew ?_ | refine blk_alloc ?_ _)); refine blk_far ?_ NB211_209.out _; (with_reducible repeat (first | refine blk_drewN ?_ _ | refine blk_drew ?_ | refine blk_alloc ?_ _)); refine blk_far ?_ NB211_209.out _; (with_reducible repeat (first | refine blk_drewN ?_ _ | refine blk_drew ?_ | refine blk_alloc ?_ _)); refine blk_far ?_ NB211_209.out _; (with_reducible repeat (first | refine blk_drewN ?_ _ | refine blk_drew ?_ | refine blk_alloc ?_ _)); exact BK211.out⟩
      have n4_ : Aside0 (Below w.heap.size w ((((w20.setCell ⟨gb209, 0, none⟩ (.string t218)).setCell ⟨gb209, 1, none⟩ (.string t219)).setCell ⟨gb209, 2, none⟩ (.int .i64 t220)).setCell ⟨gb209, 3, none⟩ (.bool t221))) := ⟨hx_ HB⟩
      (try clear HO217)
      (try clear BK209)
      (try clear BK210)
      (try clear BK211)
      (try clear HB)
      generalize ((((w20.setCell ⟨gb209, 0, none⟩ (.string t218)).setCell ⟨gb209, 1, none⟩ (.string t219)).setCell ⟨gb209, 2, none⟩ (.int .i64 t220)).setCell ⟨gb209, 3, none⟩ (.bool t221)) = w25 at n0_ n1_ n2_ n3_ n4_ ⊢
      have HO217 := n0_
      have BK209 := n1_
      have BK210 := n2_
      have BK211 := n3_
      have HB := n4_
      clear n0_ n1_ n2_ n3_ n4_
      have n0_ := am_ (Kd.R_drew HO217.out)
      have n1_ := am_ (blk_drew BK209.out)
      have n2_ := am_ (blk_drew BK210.out)
      have n3_ := am_ (blk_drew BK211.out)
      have n4_ := am_ (below_drew1 HB.out)
      clear HO217
      clear BK209
      clear BK210
      clear BK211
      clear HB
      have HO217 := n0_
      have BK209 := n1_
      have BK210 := n2_
      have BK211 := n3_
      have HB := n4_
      clear n0_ n1_ n2_ n3_ n4_
      obtain ⟨Ao27, co27, eo27⟩ := Kd.R_slice HO217.out
      (first | subst eo27 | (injection eo27 with f1_ f2_ f3_; have f4_ := f1_.symm; have f5_ := f3_.symm; clear f1_ f2_ f3_; subst f4_; subst f5_))
      refine start_ (n := 6) (S := fun w' => w'.cell? ⟨gb209, 0, none⟩ = some (.string t218) ∧ w'.cell? ⟨gb209, 1, none⟩ = some (.string t219) ∧ w'.cell? ⟨gb209, 2, none⟩ = some (.int .i64 t220) ∧ w'.cell? ⟨gb209, 3, none⟩ = some (.bool t221)) (ds := []) bN11_ (by kernel_rfl) rfl rfl ⟨(blk_cell BK209.out 0).trans rfl, (blk_cell BK209.out 1).trans rfl, (blk_cell BK209.out 2).trans rfl, (blk_cell BK209.out 3).trans rfl⟩ (fun hHeld => ?_)
      generalize w25.drew = w26 at HO217 BK209 BK210 BK211 HB hHeld ⊢
      refine pure_ (i := 0) (N := some 41) (v := ?_) (a' := ?_) bN12_ rfl rfl (by kernel_rfl) (fun _ _ _ h => h) (Or.inl ⟨by rfl, ?_⟩) ?_ ?_; rotate_left; (intro w'; go_simp; with_reducible rfl); rotate_left; (simp only [Act.put, List.setIfInBounds_toArray, List.set_cons_zero, List.set_cons_succ, i64_w, i32_w]; rfl)
      refine take_ (i := 2) (N := some 43) (v := ?_) (a' := ?_) bN13_ rfl rfl (by kernel_rfl) (fun _ _ _ h => h) (Or.inl ⟨by rfl, ?_⟩) hHeld ?_ ?_; rotate_left; (rintro w' ⟨s0, s1, s2, s3⟩; go_simp; with_reducible rfl); rotate_left; (simp only [Act.put, List.setIfInBounds_toArray, List.set_cons_zero, List.set_cons_succ, i64_w, i32_w]; rfl)
      refine one_ (i := 1) (N := some 42) bN14_ rfl rfl (by kernel_rfl) (by decide) (fun K hK => ?_)
      refine goes_ Try.func16 (by kernel_rfl) rfl #[.slice Ao27 t214.length co27] (by rfl) rfl rfl (by (try simp only [List.map_toArray, List.map_cons, List.map_nil]); first | done | rfl | (simp only [List.length_drop, List.length_take]; rfl)) ?_
      with_reducible refine (note_Fold.calls _ _ t214 t223 t224 t225 t226 t227 t228 _ ?side1 ?side2 A10.out).mono ?_
      (case side1 => repeat (first | exact (Kd.R_reads' HO217.out).2.2 | (with_reducible refine Kd.C_alloc ?_ _) | (with_reducible refine Kd.C_drewN ?_ _) | (with_reducible refine Kd.C_drew ?_)))
      (case side2 => exact (Kd.R_reads' HO217.out).2.1)
      rintro e w28 ⟨v229, rfl, ho0, hb⟩
      refine ⟨_, rfl, ?_⟩
      have n0_ := am_ (Kd.R_below (rx_ HO217) hb)
      have n1_ := am_ (Kd.R_lower ho0 (below_size (hx_ HB)))
      have n2_ := am_ (bb_ BK209 hb)
      have n3_ := am_ (bb_ BK210 hb)
      have n4_ := am_ (bb_ BK211 hb)
      have n5_ := am_ (below_step (hy_ HB) hb)
      clear HO217
      clear BK209
      clear BK210
      clear BK211
      clear HB
      have HO217 := n0_
      have HO230 := n1_
      have BK209 := n2_
      have BK210 := n3_
      have BK211 := n4_
      have HB := n5_
      clear n0_ n1_ n2_ n3_ n4_ n5_
      (try clear hb)
      (try clear hb2)
      (try clear hk)
      (try clear hi)
      (try clear ho0)
      obtain ⟨Ao34, co34, eo34⟩ := Kd.R_slice HO230.out
      (first | subst eo34 | (injection eo34 with f1_ f2_ f3_; have f4_ := f1_.symm; have f5_ := f3_.symm; clear f1_ f2_ f3_; subst f4_; subst f5_))
      refine hK.out _ _ ⟨(blk_cell BK209.out 0).trans rfl, (blk_cell BK209.out 1).trans rfl, (blk_cell BK209.out 2).trans rfl, (blk_cell BK209.out 3).trans rfl⟩ (fun hHeld => ?_)
      clear hK K
      refine norm_ (a' := ?_) ?_ ?_
      rotate_left
      ·show Act.put _ (some 42) _ = _
       simp only [Act.put, List.setIfInBounds_toArray, List.set_cons_zero, List.set_cons_succ, i64_w, i32_w]
       rfl
      refine one_ (i := 3) (N := none) #[true, true, true, true, false, false] rfl rfl (by kernel_rfl) (by decide) (fun K hK => ?_)
      refine skip_ (w1 := w28.setRow gb210 #[.int .u64 t223, .int .u64 t224, .int .u64 t225, .int .u64 t226, .string t227, .slice Ao34 t228.length co34]) (by rfl) rfl (by refine exec_storeR rfl rfl ?hs_ BK210.out (by kernel_rfl) rfl ?h1_; (case hs_ => rfl); (case h1_ => rfl)) ?_
      have hH_ := And.intro (((row_cell (p := ⟨gb209, _, none⟩) NB209_210.out #[.int .u64 t223, .int .u64 t224, .int .u64 t225, .int .u64 t226, .string t227, .slice Ao34 t228.length co34]).trans (hHeld.1))) (And.intro (((row_cell (p := ⟨gb209, _, none⟩) NB209_210.out #[.int .u64 t223, .int .u64 t224, .int .u64 t225, .int .u64 t226, .string t227, .slice Ao34 t228.length co34]).trans (hHeld.2.1))) (And.intro (((row_cell (p := ⟨gb209, _, none⟩) NB209_210.out #[.int .u64 t223, .int .u64 t224, .int .u64 t225, .int .u64 t226, .string t227, .slice Ao34 t228.length co34]).trans (hHeld.2.2.1))) (((row_cell (p := ⟨gb209, _, none⟩) NB209_210.out #[.int .u64 t223, .int .u64 t224, .int .u64 t225, .int .u64 t226, .string t227, .slice Ao34 t228.length co34]).trans (hHeld.2.2.2)))))
      have n0_ := am_ (setRow_heap w28 gb210 _ #[.int .u64 t223, .int .u64 t224, .int .u64 t225, .int .u64 t226, .string t227, .slice Ao34 t228.length co34] 30 (0, 0) BK210.out)
      have n1_ := am_ (row_blk BK209.out NB209_210.out #[.int .u64 t223, .int .u64 t224, .int .u64 t225, .int .u64 t226, .string t227, .slice Ao34 t228.length co34])
      have n2_ := am_ (row_blk BK211.out NB211_210.out #[.int .u64 t223, .int .u64 t224, .int .u64 t225, .int .u64 t226, .string t227, .slice Ao34 t228.length co34])
      have n3_ := am_ (row_below HB.out GE210.out #[.int .u64 t223, .int .u64 t224, .int .u64 t225, .int .u64 t226, .string t227, .slice Ao34 t228.length co34])
      have n4_ := am_ (row_R HO230.out BK210.out (by decide) #[.int .u64 t223, .int .u64 t224, .int .u64 t225, .int .u64 t226, .string t227, .slice Ao34 t228.length co34])
      clear BK209 BK210 BK211 HB HO230
      generalize w28.setRow gb210 #[.int .u64 t223, .int .u64 t224, .int .u64 t225, .int .u64 t226, .string t227, .slice Ao34 t228.length co34] = wZ0_ at hH_ n0_ n1_ n2_ n3_ n4_ ⊢
      have BK210 := n0_
      have BK209 := n1_
      have BK211 := n2_
      have HB := n3_
      have HO230 := n4_
      clear n0_ n1_ n2_ n3_ n4_
      refine hK.out _ _ hH_ (fun hHeld => ?_)
      clear hK K
      refine one_ (i := 4) (N := none) #[true, true, true, true, true, false] rfl rfl (by kernel_rfl) (by decide) (fun K hK => ?_)
      refine skip_ (w1 := wZ0_.setRow gb211 #[.string t218, .string t219, .int .i64 t220, .bool t221]) (by rfl) rfl (by refine exec_storeR rfl rfl ?hs_ BK211.out (by kernel_rfl) rfl ?h1_; (case hs_ => rfl); (case h1_ => rfl)) ?_
      have hH_ := And.intro (((row_cell (p := ⟨gb209, _, none⟩) NB209_211.out #[.string t218, .string t219, .int .i64 t220, .bool t221]).trans (hHeld.1))) (And.intro (((row_cell (p := ⟨gb209, _, none⟩) NB209_211.out #[.string t218, .string t219, .int .i64 t220, .bool t221]).trans (hHeld.2.1))) (And.intro (((row_cell (p := ⟨gb209, _, none⟩) NB209_211.out #[.string t218, .string t219, .int .i64 t220, .bool t221]).trans (hHeld.2.2.1))) (((row_cell (p := ⟨gb209, _, none⟩) NB209_211.out #[.string t218, .string t219, .int .i64 t220, .bool t221]).trans (hHeld.2.2.2)))))
      have n0_ := am_ (setRow_heap wZ0_ gb211 _ #[.string t218, .string t219, .int .i64 t220, .bool t221] 34 (0, 0) BK211.out)
      have n1_ := am_ (row_blk BK209.out NB209_211.out #[.string t218, .string t219, .int .i64 t220, .bool t221])
      have n2_ := am_ (row_blk BK210.out NB210_211.out #[.string t218, .string t219, .int .i64 t220, .bool t221])
      have n3_ := am_ (row_below HB.out GE211.out #[.string t218, .string t219, .int .i64 t220, .bool t221])
      have n4_ := am_ (row_R HO230.out BK211.out (by decide) #[.string t218, .string t219, .int .i64 t220, .bool t221])
      clear BK209 BK210 BK211 HB HO230
      generalize wZ0_.setRow gb211 #[.string t218, .string t219, .int .i64 t220, .bool t221] = wZ1_ at hH_ n0_ n1_ n2_ n3_ n4_ ⊢
      have BK211 := n0_
      have BK209 := n1_
      have BK210 := n2_
      have HB := n3_
      have HO230 := n4_
      clear n0_ n1_ n2_ n3_ n4_
      refine hK.out _ _ hH_ (fun hHeld => ?_)
      clear hK K
      refine pure_ (i := 5) (N := some 4) (v := ?_) (a' := ?_) #[true, true, true, true, true, true] rfl rfl (by kernel_rfl) (fun _ _ _ h => h) (Or.inl ⟨by rfl, ?_⟩) ?_ ?_; rotate_left; (intro w'; go_simp; with_reducible rfl); rotate_left; (simp only [Act.put, List.setIfInBounds_toArray, List.set_cons_zero, List.set_cons_succ, i64_w, i32_w]; rfl)
      refine done_ (by kernel_rfl) ?_
      try go_wp2
      refine bodyPost_ret (results_list (rs := [.cell 2 30, .cell 3 34, .tmp 4]) rfl (by simp) (.cell gb210 30 #[.int .u64 t223, .int .u64 t224, .int .u64 t225, .int .u64 t226, .string t227, .slice Ao34 t228.length co34] (0, 0) _ rfl (bx_ BK210) Try.underlying30 rfl (by kernel_rfl) (.cell gb211 34 #[.string t218, .string t219, .int .i64 t220, .bool t221] (0, 0) _ rfl (bx_ BK211) Try.underlying34 rfl (by kernel_rfl) (.tmp .nil)))) rfl ?_
      exact ⟨_, by first | rfl | (simp [errW_none, errW_some] <;> rfl) | (simp [*, errW_none, errW_some] <;> rfl), rx_ HO230, hx_ HB⟩
     ·rw [if_neg c9] at H
      have c9b0 : (t222 == 0) = false := beq_eq_false_iff_ne.mpr c9
      have c9b1 : (t222 != 0) = true := bne_iff_ne.mpr c9
      simp only [Option.some.injEq, Prod.mk.injEq] at H
      obtain ⟨rfl, rfl, rfl, rfl, rfl, rfl, rfl, rfl, rfl, rfl, rfl⟩ := H
      go_enter Try.func21, Try.ntmps21
      try go_wp2_with (first | ((with_reducible refine gate_dst (N := 1) rfl ?_); refine box_event ?hg (N := 1) ?hd (cs := #[.string a0_0, .string a0_1, .int .i64 a0_2, .bool a0_3]) (t := 34) ?hr ?_; (case hd => rfl); (case hg => rfl); (case hr => first | (go_simp; done) | (go_simp; rfl)); intro gb209 hg w40 hbox hb; have n0_ := am_ (below_step (hy_ HB) hb); have n1_ := am_ (hbox); have n2_ := am_ ((by rw [hg]; exact (below_size (hx_ HB)) : w.heap.size ≤ gb209)); have n3_ := am_ ((by rw [hg]; exact (below_size (hx_ HB)) : w.heap.size ≤ gb209)); clear HB; have HB := n0_; have BK209 := n1_; have GW209 := n2_; have GE209 := n3_; clear n0_ n1_ n2_ n3_; clear hb hbox hg) | ((with_reducible refine gate_dst (N := 2) rfl ?_); refine box_event ?hg (N := 2) ?hd (cs := #[.int .u64 0, .int .u64 0, .int .u64 0, .int .u64 0, .string (⟨#[]⟩ : ByteArray), .slice none 0 0]) (t := 30) ?hr ?_; (case hd => rfl); (case hg => rfl); (case hr => first | (go_simp; done) | (go_simp; rfl)); intro gb210 hg w41 hbox hb; have n0_ := am_ (bb_ BK209 hb); have n1_ := am_ (below_step (hy_ HB) hb); have n2_ := am_ (hbox); have n3_ := am_ ((by rw [hg]; exact (below_size (hx_ HB)) : w.heap.size ≤ gb210)); have n4_ := am_ ((by rw [hg]; exact (below_size (hx_ HB)) : w.heap.size ≤ gb210)); have n5_ := am_ ((by rw [hg]; exact Nat.ne_of_lt (bl_ BK209) : gb209 ≠ gb210)); have n6_ := am_ ((by rw [hg]; exact Nat.ne_of_gt (bl_ BK209) : gb210 ≠ gb209)); clear BK209 HB; have BK209 := n0_; have HB := n1_; have BK210 := n2_; have GW210 := n3_; have GE210 := n4_; have NB209_210 := n5_; have NB210_209 := n6_; clear n0_ n1_ n2_ n3_ n4_ n5_ n6_; clear hb hbox hg) | ((with_reducible refine gate_dst (N := 3) rfl ?_); refine box_event ?hg (N := 3) ?hd (cs := #[.string (⟨#[]⟩ : ByteArray), .string (⟨#[]⟩ : ByteArray), .int .i64 0, .bool false]) (t := 34) ?hr ?_; (case hd => rfl); (case hg => rfl); (case hr => first | (go_simp; done) | (go_simp; rfl)); intro gb211 hg w42 hbox hb; have n0_ := am_ (bb_ BK209 hb); have n1_ := am_ (bb_ BK210 hb); have n2_ := am_ (below_step (hy_ HB) hb); have n3_ := am_ (hbox); have n4_ := am_ ((by rw [hg]; exact (below_size (hx_ HB)) : w.heap.size ≤ gb211)); have n5_ := am_ ((by rw [hg]; exact (below_size (hx_ HB)) : w.heap.size ≤ gb211)); have n6_ := am_ ((by rw [hg]; exact Nat.ne_of_lt (bl_ BK209) : gb209 ≠ gb211)); have n7_ := am_ ((by rw [hg]; exact Nat.ne_of_gt (bl_ BK209) : gb211 ≠ gb209)); have n8_ := am_ ((by rw [hg]; exact Nat.ne_of_lt (bl_ BK210) : gb210 ≠ gb211)); have n9_ := am_ ((by rw [hg]; exact Nat.ne_of_gt (bl_ BK210) : gb211 ≠ gb210)); clear BK209 BK210 HB; have BK209 := n0_; have BK210 := n1_; have HB := n2_; have BK211 := n3_; have GW211 := n4_; have GE211 := n5_; have NB209_211 := n6_; have NB211_209 := n7_; have NB210_211 := n8_; have NB211_210 := n9_; clear n0_ n1_ n2_ n3_ n4_ n5_ n6_ n7_ n8_ n9_; clear hb hbox hg; have hnb43 := NB209_210.out; have hnc43 := NB210_209.out; have hnb44 := NB209_211.out; have hnc44 := NB211_209.out; have hcz45_0 : w42.cell? ⟨gb209, 0, none⟩ = some (.string a0_0) := (blk_cell BK209.out 0).trans rfl; have hcz45_1 : w42.cell? ⟨gb209, 1, none⟩ = some (.string a0_1) := (blk_cell BK209.out 1).trans rfl; have hcz45_2 : w42.cell? ⟨gb209, 2, none⟩ = some (.int .i64 a0_2) := (blk_cell BK209.out 2).trans rfl; have hcz45_3 : w42.cell? ⟨gb209, 3, none⟩ = some (.bool a0_3) := (blk_cell BK209.out 3).trans rfl; have hfz45_0 := blk_frozen BK209.out 0; have hfz45_1 := blk_frozen BK209.out 1; have hfz45_2 := blk_frozen BK209.out 2; have hfz45_3 := blk_frozen BK209.out 3) | ((with_reducible refine gate_callee (f := 49) rfl ?_); refine goesL_ (some 11) rfl rfl Try.func49 (by kernel_rfl) rfl #[.agg #[.string a0_0, .string a0_1, .int .i64 a0_2, .bool a0_3]] rfl (by (try simp only [List.map_toArray, List.map_cons, List.map_nil]); first | done | rfl | (simp only [List.length_drop, List.length_take]; rfl)) ?_; (with_reducible refine (tape_Read.calls a0_0 a0_1 a0_2 a0_3 t212 t213 _ A2.out).mono ?_); rintro e w46 ⟨rfl, hb⟩; refine ⟨_, rfl, ?_⟩; have n0_ := am_ (bb_ BK209 hb); have n1_ := am_ (bb_ BK210 hb); have n2_ := am_ (bb_ BK211 hb); have n3_ := am_ (below_step (hy_ HB) hb); clear BK209 BK210 BK211 HB; have BK209 := n0_; have BK210 := n1_; have BK211 := n2_; have HB := n3_; clear n0_ n1_ n2_ n3_; (try clear hb); (try clear hb2); (try clear hk); (try clear hi)) | ((with_reducible refine gate_callee (f := 23) rfl ?_); refine goesL_ (some 21) rfl rfl Try.func23 (by kernel_rfl) rfl #[.string t212] rfl (by (try simp only [List.map_toArray, List.map_cons, List.map_nil]); first | done | rfl | (simp only [List.length_drop, List.length_take]; rfl)) ?_; (with_reducible refine (note_Read.calls k t212 t214 t215 _ A4.out).mono ?_); rintro e w47 ⟨v216, rfl, ho0, hb⟩; refine ⟨_, rfl, ?_⟩; have n0_ := am_ (Kd.R_lower ho0 (below_size (hx_ HB))); have n1_ := am_ (bb_ BK209 hb); have n2_ := am_ (bb_ BK210 hb); have n3_ := am_ (bb_ BK211 hb); have n4_ := am_ (below_step (hy_ HB) hb); clear BK209 BK210 BK211 HB; have HO217 := n0_; have BK209 := n1_; have BK210 := n2_; have BK211 := n3_; have HB := n4_; clear n0_ n1_ n2_ n3_ n4_; (try clear hb); (try clear hb2); (try clear hk); (try clear hi); (try clear ho0)))
      have n0_ := am_ (Kd.R_drew HO217.out)
      have n1_ := am_ (blk_drew BK209.out)
      have n2_ := am_ (blk_drew BK210.out)
      have n3_ := am_ (blk_drew BK211.out)
      have n4_ := am_ (below_drew1 HB.out)
      clear HO217
      clear BK209
      clear BK210
      clear BK211
      clear HB
      have HO217 := n0_
      have BK209 := n1_
      have BK210 := n2_
      have BK211 := n3_
      have HB := n4_
      clear n0_ n1_ n2_ n3_ n4_
      refine start_ (n := 10) (S := fun w' => w'.cell? ⟨gb209, 0, none⟩ = some (.string a0_0) ∧ w'.cell? ⟨gb209, 1, none⟩ = some (.string a0_1) ∧ w'.cell? ⟨gb209, 2, none⟩ = some (.int .i64 a0_2) ∧ w'.cell? ⟨gb209, 3, none⟩ = some (.bool a0_3)) (ds := [8]) bN0_ (by kernel_rfl) rfl rfl ⟨(blk_cell BK209.out 0).trans rfl, (blk_cell BK209.out 1).trans rfl, (blk_cell BK209.out 2).trans rfl, (blk_cell BK209.out 3).trans rfl⟩ (fun hHeld => ?_); refine with_tabW note_Recover.tab6 note_Recover.bits6 (fun HT_ HW_ => ?_)
      generalize w47.drew = w48 at HO217 BK209 BK210 BK211 HB hHeld ⊢
      refine pure_ (i := 1) (N := some 30) (v := ?_) (a' := ?_) bN1_ rfl rfl (any_of HT_.out (by kernel_rfl)) (fun _ _ _ h => h) (Or.inl ⟨by rfl, ?_⟩) ?_ ?_; rotate_left; (intro w'; go_simp; with_reducible rfl); rotate_left; (simp only [Act.put, List.setIfInBounds_toArray, List.set_cons_zero, List.set_cons_succ, i64_w, i32_w]; rfl)
      refine pure_ (i := 2) (N := some 31) (v := ?_) (a' := ?_) bN2_ rfl rfl (any_of HT_.out (by kernel_rfl)) (fun _ _ _ h => h) (Or.inl ⟨by rfl, ?_⟩) ?_ ?_; rotate_left; (intro w'; go_simp; with_reducible rfl); rotate_left; (simp only [Act.put, List.setIfInBounds_toArray, List.set_cons_zero, List.set_cons_succ, i64_w, i32_w]; rfl)
      refine pure_ (i := 3) (N := some 32) (v := ?_) (a' := ?_) bN3_ rfl rfl (any_of HT_.out (by kernel_rfl)) (fun _ _ _ h => h) (Or.inl ⟨by rfl, ?_⟩) ?_ ?_; rotate_left; (intro w'; go_simp; with_reducible rfl); rotate_left; (simp only [Act.put, List.setIfInBounds_toArray, List.set_cons_zero, List.set_cons_succ, i64_w, i32_w]; rfl)
      refine take_ (i := 0) (N := some 29) (v := ?_) (a' := ?_) bN4_ rfl rfl (take_ofW HT_.out HW_.out (by kernel_rfl)) (fun _ _ _ h => h) (Or.inl ⟨by rfl, ?_⟩) hHeld ?_ ?_; rotate_left; (rintro w' ⟨s0, s1, s2, s3⟩; go_simp; with_reducible rfl); rotate_left; (simp only [Act.put, List.setIfInBounds_toArray, List.set_cons_zero, List.set_cons_succ, i64_w, i32_w]; rfl)
      refine one_ (i := 4) (N := some 33) bN5_ rfl rfl (one_of HT_.out (by kernel_rfl)) (by decide) (fun K hK => ?_)
      refine goes_ Try.func50 (by kernel_rfl) rfl #[.agg #[.string a0_0, .string a0_1, .int .i64 a0_2, .bool a0_3], .string (t212.extract 0 (t215 : Int).toNat)] (by rfl) rfl rfl (by (try simp only [List.map_toArray, List.map_cons, List.map_nil]); first | done | rfl | (simp only [List.length_drop, List.length_take]; rfl)) ?_
      with_reducible refine (tape_Install.calls a0_0 a0_1 a0_2 a0_3 (t212.extract 0 (t215 : Int).toNat) t218 t219 t220 t221 t222 _ A8.out).mono ?_
      rintro e w49 ⟨rfl, hb⟩
      refine ⟨_, rfl, ?_⟩
      have n0_ := am_ (Kd.R_below (rx_ HO217) hb)
      have n1_ := am_ (bb_ BK209 hb)
      have n2_ := am_ (bb_ BK210 hb)
      have n3_ := am_ (bb_ BK211 hb)
      have n4_ := am_ (below_step (hy_ HB) hb)
      clear HO217
      clear BK209
      clear BK210
      clear BK211
      clear HB
      have HO217 := n0_
      have BK209 := n1_
      have BK210 := n2_
      have BK211 := n3_
      have HB := n4_
      clear n0_ n1_ n2_ n3_ n4_
      (try clear hb)
      (try clear hb2)
      (try clear hk)
      (try clear hi)
      refine hK.out _ _ ⟨(blk_cell BK209.out 0).trans rfl, (blk_cell BK209.out 1).trans rfl, (blk_cell BK209.out 2).trans rfl, (blk_cell BK209.out 3).trans rfl⟩ (fun hHeld => ?_)
      clear hK K
      refine norm_ (a' := ?_) ?_ ?_
      rotate_left
      ·show Act.put _ (some 33) _ = _
       simp only [Act.put, List.setIfInBounds_toArray, List.set_cons_zero, List.set_cons_succ, i64_w, i32_w]
       rfl
      refine pure_ (i := 5) (N := some 28) (v := ?_) (a' := ?_) bN6_ rfl rfl (any_of HT_.out (by kernel_rfl)) (fun _ _ _ h => h) (Or.inl ⟨by rfl, ?_⟩) ?_ ?_; rotate_left; (intro w'; go_simp; with_reducible rfl); rotate_left; (simp only [Act.put, List.setIfInBounds_toArray, List.set_cons_zero, List.set_cons_succ, i64_w, i32_w]; rfl)
      refine pure_ (i := 6) (N := some 34) (v := ?_) (a' := ?_) bN7_ rfl rfl (any_of HT_.out (by kernel_rfl)) (fun _ _ _ h => h) (Or.inl ⟨by rfl, ?_⟩) ?_ ?_; rotate_left; (intro w'; go_simp; with_reducible rfl); rotate_left; (simp only [Act.put, List.setIfInBounds_toArray, List.set_cons_zero, List.set_cons_succ, i64_w, i32_w]; rfl)
      refine pure_ (i := 7) (N := some 35) (v := ?_) (a' := ?_) bN8_ rfl rfl (any_of HT_.out (by kernel_rfl)) (fun _ _ _ h => h) (Or.inl ⟨by rfl, ?_⟩) ?_ ?_; rotate_left; (intro w'; go_simp; with_reducible rfl); rotate_left; (simp only [Act.put, List.setIfInBounds_toArray, List.set_cons_zero, List.set_cons_succ, i64_w, i32_w]; rfl)
      refine last_ (i := 8) (N := none) bN9_ rfl rfl (one_of HT_.out (by kernel_rfl)) (by decide) (fun K hK => ?_)
      have hs50 : w49.cell? ⟨gb209, 0, none⟩ = some (.string a0_0) := (blk_cell BK209.out 0).trans rfl
      have hfs50 := blk_frozen BK209.out 0
      have hns50_1 := NB210_209.out
      have hns50_2 := NB211_209.out
      have hms50_1 := NB209_210.out
      have hms50_2 := NB209_211.out
      have hs51 : w49.cell? ⟨gb209, 1, none⟩ = some (.string a0_1) := (blk_cell BK209.out 1).trans rfl
      have hfs51 := blk_frozen BK209.out 1
      have hns51_1 := NB210_209.out
      have hns51_2 := NB211_209.out
      have hms51_1 := NB209_210.out
      have hms51_2 := NB209_211.out
      have hs52 : w49.cell? ⟨gb209, 2, none⟩ = some (.int .i64 a0_2) := (blk_cell BK209.out 2).trans rfl
      have hfs52 := blk_frozen BK209.out 2
      have hns52_1 := NB210_209.out
      have hns52_2 := NB211_209.out
      have hms52_1 := NB209_210.out
      have hms52_2 := NB209_211.out
      have hs53 : w49.cell? ⟨gb209, 3, none⟩ = some (.bool a0_3) := (blk_cell BK209.out 3).trans rfl
      have hfs53 := blk_frozen BK209.out 3
      have hns53_1 := NB210_209.out
      have hns53_2 := NB211_209.out
      have hms53_1 := NB209_210.out
      have hms53_2 := NB209_211.out
      refine skip_ (w1 := ?_) (by rfl) rfl ?_ ?_
      rotate_left
      ·go_simp
       rfl
      refine hK.out _ _ ?_
      clear hK K
      refine pure_ (i := 9) (N := some 6) (v := ?_) (a' := ?_) bN10_ rfl rfl (any_of HT_.out (by kernel_rfl)) (fun _ _ _ h => h) (Or.inl ⟨by rfl, ?_⟩) ?_ ?_; rotate_left; (intro w'; go_simp; with_reducible rfl); rotate_left; (simp only [Act.put, List.setIfInBounds_toArray, List.set_cons_zero, List.set_cons_succ, i64_w, i32_w]; rfl)
      refine done_ (done_of HT_.out (by kernel_rfl)) ?_
      try go_wp2
      have n0_ : Aside0 (Kd.R k39 39 ((((w49.setCell ⟨gb209, 0, none⟩ (.string t218)).setCell ⟨gb209, 1, none⟩ (.string t219)).setCell ⟨gb209, 2, none⟩ (.int .i64 t220)).setCell ⟨gb209, 3, none⟩ (.bool t221)) w.heap.size (fun _ => True) v216 t214) := ⟨by (with_reducible repeat (first | apply Kd.R_alloc | apply Kd.R_drewN | apply Kd.R_drew)); exact Kd.R_mono (Kd.R_far (p := ⟨gb209, 3, none⟩) (Kd.R_far (p := ⟨gb209, 2, none⟩) (Kd.R_far (p := ⟨gb209, 1, none⟩) (Kd.R_far (p := ⟨gb209, 0, none⟩) (Kd.R_types HO217.out BK209.out (by decide)) (fun _ hk => hk.2) (.string t218)) (fun _ hk => hk.2) (.string t219)) (fun _ hk => hk.2) (.int .i64 t220)) (fun _ hk => hk.2) (.bool t221)) (fun _ hk => trivial)⟩
      have n1_ : Aside0 (((((w49.setCell ⟨gb209, 0, none⟩ (.string t218)).setCell ⟨gb209, 1, none⟩ (.string t219)).setCell ⟨gb209, 2, none⟩ (.int .i64 t220)).setCell ⟨gb209, 3, none⟩ (.bool t221)).heap[gb209]? = some (.cells #[.string t218, .string t219, .int .i64 t220, .bool t221] 34 (0, 0))) := ⟨by (with_reducible repeat (first | refine blk_drewN ?_ _ | refine blk_drew ?_ | refine blk_alloc ?_ _)); refine blk_put (cs := #[.string t218, .string t219, .int .i64 t220, .bool a0_3]) ?_ 3 _ rfl; (with_reducible repeat (first | refine blk_drewN ?_ _ | refine blk_drew ?_ | refine blk_alloc ?_ _)); refine blk_put (cs := #[.string t218, .string t219, .int .i64 a0_2, .bool a0_3]) ?_ 2 _ rfl; (with_reducible repeat (first | refine blk_drewN ?_ _ | refine blk_drew ?_ | refine blk_alloc ?_ _)); refine blk_put (cs := #[.string t218, .string a0_1, .int .i64 a0_2, .bool a0_3]) ?_ 1 _ rfl; (with_reducible repeat (first | refine blk_drewN ?_ _ | refine blk_drew ?_ | refine blk_alloc ?_ _)); refine blk_put (cs := #[.string a0_0, .string a0_1, .int .i64 a0_2, .bool a0_3]) ?_ 0 _ rfl; (with_reducible repeat (first | refine blk_drewN ?_ _ | refine blk_drew ?_ | refine blk_alloc ?_ _)); exact BK209.out⟩
      have n2_ : Aside0 (((((w49.setCell ⟨gb209, 0, none⟩ (.string t218)).setCell ⟨gb209, 1, none⟩ (.string t219)).setCell ⟨gb209, 2, none⟩ (.int .i64 t220)).setCell ⟨gb209, 3, none⟩ (.bool t221)).heap[gb210]? = some (.cells #[.int .u64 0, .int .u64 0, .int .u64 0, .int .u64 0, .string (⟨#[]⟩ : ByteArray), .slice none 0 0] 30 (0, 0))) := ⟨by (with_reducible repeat (first | refine blk_drewN ?_ _ | refine blk_drew ?_ | refine blk_alloc ?_ _)); refine blk_far ?_ NB210_209.out _; (with_reducible repeat (first | refine blk_drewN ?_ _ | refine blk_drew ?_ | refine blk_alloc ?_ _)); refine blk_far ?_ NB210_209.out _; (with_reducible repeat (first | refine blk_drewN ?_ _ | refine blk_drew ?_ | refine blk_alloc ?_ _)); refine blk_far ?_ NB210_209.out _; (with_reducible repeat (first | refine blk_drewN ?_ _ | refine blk_drew ?_ | refine blk_alloc ?_ _)); refine blk_far ?_ NB210_209.out _; (with_reducible repeat (first | refine blk_drewN ?_ _ | refine blk_drew ?_ | refine blk_alloc ?_ _)); exact BK210.out⟩
      have n3_ : Aside0 (((((w49.setCell ⟨gb209, 0, none⟩ (.string t218)).setCell ⟨gb209, 1, none⟩ (.string t219)).setCell ⟨gb209, 2, none⟩ (.int .i64 t220)).setCell ⟨gb209, 3, none⟩ (.bool t221)).heap[gb211]? = some (.cells #[.string (⟨#[]⟩ : ByteArray), .string (⟨#[]⟩ : ByteArray), .int .i64 0, .bool false] 34 (0, 0))) := ⟨by (with_reducible repeat (first | refine blk_drewN ?_ _ | refine blk_drew ?_ | refine blk_alloc ?_ _)); refine blk_far ?_ NB211_209.out _; (with_reducible repeat (first | refine blk_drewN ?_ _ | refine blk_drew ?_ | refine blk_alloc ?_ _)); refine blk_far ?_ NB211_209.out _; (with_reducible repeat (first | refine blk_drewN ?_ _ | refine blk_drew ?_ | refine blk_alloc ?_ _)); refine blk_far ?_ NB211_209.out _; (with_reducible repeat (first | refine blk_drewN ?_ _ | refine blk_drew ?_ | refine blk_alloc ?_ _)); refine blk_far ?_ NB211_209.out _; (with_reducible repeat (first | refine blk_drewN ?_ _ | refine blk_drew ?_ | refine blk_alloc ?_ _)); exact BK211.out⟩
      have n4_ : Aside0 (Below w.heap.size w ((((w49.setCell ⟨gb209, 0, none⟩ (.string t218)).setCell ⟨gb209, 1, none⟩ (.string t219)).setCell ⟨gb209, 2, none⟩ (.int .i64 t220)).setCell ⟨gb209, 3, none⟩ (.bool t221))) := ⟨hx_ HB⟩
      (try clear HO217)
      (try clear BK209)
      (try clear BK210)
      (try clear BK211)
      (try clear HB)
      generalize ((((w49.setCell ⟨gb209, 0, none⟩ (.string t218)).setCell ⟨gb209, 1, none⟩ (.string t219)).setCell ⟨gb209, 2, none⟩ (.int .i64 t220)).setCell ⟨gb209, 3, none⟩ (.bool t221)) = w54 at n0_ n1_ n2_ n3_ n4_ ⊢
      have HO217 := n0_
      have BK209 := n1_
      have BK210 := n2_
      have BK211 := n3_
      have HB := n4_
      clear n0_ n1_ n2_ n3_ n4_
      have n0_ := am_ (Kd.R_drew HO217.out)
      have n1_ := am_ (blk_drew BK209.out)
      have n2_ := am_ (blk_drew BK210.out)
      have n3_ := am_ (blk_drew BK211.out)
      have n4_ := am_ (below_drew1 HB.out)
      clear HO217
      clear BK209
      clear BK210
      clear BK211
      clear HB
      have HO217 := n0_
      have BK209 := n1_
      have BK210 := n2_
      have BK211 := n3_
      have HB := n4_
      clear n0_ n1_ n2_ n3_ n4_
      refine start_ (n := 6) (S := fun w' => w'.cell? ⟨gb209, 0, none⟩ = some (.string t218) ∧ w'.cell? ⟨gb209, 1, none⟩ = some (.string t219) ∧ w'.cell? ⟨gb209, 2, none⟩ = some (.int .i64 t220) ∧ w'.cell? ⟨gb209, 3, none⟩ = some (.bool t221)) (ds := []) bN11_ (by kernel_rfl) rfl rfl ⟨(blk_cell BK209.out 0).trans rfl, (blk_cell BK209.out 1).trans rfl, (blk_cell BK209.out 2).trans rfl, (blk_cell BK209.out 3).trans rfl⟩ (fun hHeld => ?_)
      generalize w54.drew = w55 at HO217 BK209 BK210 BK211 HB hHeld ⊢
      refine pure_ (i := 0) (N := some 38) (v := ?_) (a' := ?_) bN12_ rfl rfl (by kernel_rfl) (fun _ _ _ h => h) (Or.inl ⟨by rfl, ?_⟩) ?_ ?_; rotate_left; (intro w'; go_simp; with_reducible rfl); rotate_left; (simp only [Act.put, List.setIfInBounds_toArray, List.set_cons_zero, List.set_cons_succ, i64_w, i32_w]; rfl)
      refine pure_ (i := 2) (N := some 40) (v := ?_) (a' := ?_) bN13_ rfl rfl (by kernel_rfl) (fun _ _ _ h => h) (Or.inl ⟨by rfl, ?_⟩) ?_ ?_; rotate_left; (intro w'; go_simp; with_reducible rfl); rotate_left; (simp only [Act.put, List.setIfInBounds_toArray, List.set_cons_zero, List.set_cons_succ, i64_w, i32_w]; rfl)
      refine take_ (i := 1) (N := some 39) (v := ?_) (a' := ?_) bN14_ rfl rfl (by kernel_rfl) (fun _ _ _ h => h) (Or.inl ⟨by rfl, ?_⟩) hHeld ?_ ?_; rotate_left; (rintro w' ⟨s0, s1, s2, s3⟩; go_simp; with_reducible rfl); rotate_left; (simp only [Act.put, List.setIfInBounds_toArray, List.set_cons_zero, List.set_cons_succ, i64_w, i32_w]; rfl)
      refine one_ (i := 3) (N := none) #[true, true, true, true, false, false] rfl rfl (by kernel_rfl) (by decide) (fun K hK => ?_)
      refine skip_ (w1 := w55.setRow gb210 #[.int .u64 0, .int .u64 0, .int .u64 0, .int .u64 0, .string (⟨#[]⟩ : ByteArray), .slice none 0 0]) (by rfl) rfl (by refine exec_storeR rfl rfl ?hs_ BK210.out (by kernel_rfl) rfl ?h1_; (case hs_ => rfl); (case h1_ => rfl)) ?_
      have hH_ := And.intro (((row_cell (p := ⟨gb209, _, none⟩) NB209_210.out #[.int .u64 0, .int .u64 0, .int .u64 0, .int .u64 0, .string (⟨#[]⟩ : ByteArray), .slice none 0 0]).trans (hHeld.1))) (And.intro (((row_cell (p := ⟨gb209, _, none⟩) NB209_210.out #[.int .u64 0, .int .u64 0, .int .u64 0, .int .u64 0, .string (⟨#[]⟩ : ByteArray), .slice none 0 0]).trans (hHeld.2.1))) (And.intro (((row_cell (p := ⟨gb209, _, none⟩) NB209_210.out #[.int .u64 0, .int .u64 0, .int .u64 0, .int .u64 0, .string (⟨#[]⟩ : ByteArray), .slice none 0 0]).trans (hHeld.2.2.1))) (((row_cell (p := ⟨gb209, _, none⟩) NB209_210.out #[.int .u64 0, .int .u64 0, .int .u64 0, .int .u64 0, .string (⟨#[]⟩ : ByteArray), .slice none 0 0]).trans (hHeld.2.2.2)))))
      have n0_ := am_ (setRow_heap w55 gb210 _ #[.int .u64 0, .int .u64 0, .int .u64 0, .int .u64 0, .string (⟨#[]⟩ : ByteArray), .slice none 0 0] 30 (0, 0) BK210.out)
      have n1_ := am_ (row_blk BK209.out NB209_210.out #[.int .u64 0, .int .u64 0, .int .u64 0, .int .u64 0, .string (⟨#[]⟩ : ByteArray), .slice none 0 0])
      have n2_ := am_ (row_blk BK211.out NB211_210.out #[.int .u64 0, .int .u64 0, .int .u64 0, .int .u64 0, .string (⟨#[]⟩ : ByteArray), .slice none 0 0])
      have n3_ := am_ (row_below HB.out GE210.out #[.int .u64 0, .int .u64 0, .int .u64 0, .int .u64 0, .string (⟨#[]⟩ : ByteArray), .slice none 0 0])
      clear BK209 BK210 BK211 HB
      generalize w55.setRow gb210 #[.int .u64 0, .int .u64 0, .int .u64 0, .int .u64 0, .string (⟨#[]⟩ : ByteArray), .slice none 0 0] = wZ0_ at hH_ n0_ n1_ n2_ n3_ ⊢
      have BK210 := n0_
      have BK209 := n1_
      have BK211 := n2_
      have HB := n3_
      clear n0_ n1_ n2_ n3_
      refine hK.out _ _ hH_ (fun hHeld => ?_)
      clear hK K
      refine one_ (i := 4) (N := none) #[true, true, true, true, true, false] rfl rfl (by kernel_rfl) (by decide) (fun K hK => ?_)
      refine skip_ (w1 := wZ0_.setRow gb211 #[.string t218, .string t219, .int .i64 t220, .bool t221]) (by rfl) rfl (by refine exec_storeR rfl rfl ?hs_ BK211.out (by kernel_rfl) rfl ?h1_; (case hs_ => rfl); (case h1_ => rfl)) ?_
      have hH_ := And.intro (((row_cell (p := ⟨gb209, _, none⟩) NB209_211.out #[.string t218, .string t219, .int .i64 t220, .bool t221]).trans (hHeld.1))) (And.intro (((row_cell (p := ⟨gb209, _, none⟩) NB209_211.out #[.string t218, .string t219, .int .i64 t220, .bool t221]).trans (hHeld.2.1))) (And.intro (((row_cell (p := ⟨gb209, _, none⟩) NB209_211.out #[.string t218, .string t219, .int .i64 t220, .bool t221]).trans (hHeld.2.2.1))) (((row_cell (p := ⟨gb209, _, none⟩) NB209_211.out #[.string t218, .string t219, .int .i64 t220, .bool t221]).trans (hHeld.2.2.2)))))
      have n0_ := am_ (setRow_heap wZ0_ gb211 _ #[.string t218, .string t219, .int .i64 t220, .bool t221] 34 (0, 0) BK211.out)
      have n1_ := am_ (row_blk BK209.out NB209_211.out #[.string t218, .string t219, .int .i64 t220, .bool t221])
      have n2_ := am_ (row_blk BK210.out NB210_211.out #[.string t218, .string t219, .int .i64 t220, .bool t221])
      have n3_ := am_ (row_below HB.out GE211.out #[.string t218, .string t219, .int .i64 t220, .bool t221])
      clear BK209 BK210 BK211 HB
      generalize wZ0_.setRow gb211 #[.string t218, .string t219, .int .i64 t220, .bool t221] = wZ1_ at hH_ n0_ n1_ n2_ n3_ ⊢
      have BK211 := n0_
      have BK209 := n1_
      have BK210 := n2_
      have HB := n3_
      clear n0_ n1_ n2_ n3_
      refine hK.out _ _ hH_ (fun hHeld => ?_)
      clear hK K
      refine pure_ (i := 5) (N := some 4) (v := ?_) (a' := ?_) #[true, true, true, true, true, true] rfl rfl (by kernel_rfl) (fun _ _ _ h => h) (Or.inl ⟨by rfl, ?_⟩) ?_ ?_; rotate_left; (intro w'; go_simp; with_reducible rfl); rotate_left; (simp only [Act.put, List.setIfInBounds_toArray, List.set_cons_zero, List.set_cons_succ, i64_w, i32_w]; rfl)
      refine done_ (by kernel_rfl) ?_
      try go_wp2
      refine bodyPost_ret (results_list (rs := [.cell 2 30, .cell 3 34, .tmp 4]) rfl (by simp) (.cell gb210 30 #[.int .u64 0, .int .u64 0, .int .u64 0, .int .u64 0, .string (⟨#[]⟩ : ByteArray), .slice none 0 0] (0, 0) _ rfl (bx_ BK210) Try.underlying30 rfl (by kernel_rfl) (.cell gb211 34 #[.string t218, .string t219, .int .i64 t220, .bool t221] (0, 0) _ rfl (bx_ BK211) Try.underlying34 rfl (by kernel_rfl) (.tmp .nil)))) rfl ?_
      exact ⟨_, by first | rfl | (simp [errW_none, errW_some] <;> rfl) | (simp [*, errW_none, errW_some] <;> rfl), by first | exact Kd.R_nil _ _ _ _ _ | exact Kd.N_nil _ _ _ _ _ | exact Kd.V_nil _ _ _ _ _ | exact Kd.Q_nil _ _ _ _ _ | exact Kd.S_nil _ _ _ _ _, hx_ HB⟩
    ·rw [if_neg c7] at H
     exact absurd H (by simp)
   ·rw [if_neg c6] at H
    exact absurd H (by simp)
  ·rw [if_neg c5] at H
   have c5b0 : decide (t215 < (t212.size : Int)) = false := decide_eq_false c5
   clear c5
   replace H := Option.bind_eq_some_iff.mp H
   obtain ⟨⟨t231, t232, t233, t234, t235, t236⟩, A660, H⟩ := H
   replace H : (some (t231, t232, t233, t234, t235, t236, a0_0, a0_1, a0_2, a0_3, 0)) = some (r1, r2, r3, r4, r5, r6, r7, r8, r9, r10, r11) := H
   have A66 := am_ A660
   clear A660
   simp only [Option.some.injEq, Prod.mk.injEq] at H
   obtain ⟨rfl, rfl, rfl, rfl, rfl, rfl, rfl, rfl, rfl, rfl, rfl⟩ := H
   go_enter Try.func21, Try.ntmps21
   try go_wp2_with (first | ((with_reducible refine gate_dst (N := 1) rfl ?_); refine box_event ?hg (N := 1) ?hd (cs := #[.string a0_0, .string a0_1, .int .i64 a0_2, .bool a0_3]) (t := 34) ?hr ?_; (case hd => rfl); (case hg => rfl); (case hr => first | (go_simp; done) | (go_simp; rfl)); intro gb209 hg w67 hbox hb; have n0_ := am_ (below_step (hy_ HB) hb); have n1_ := am_ (hbox); have n2_ := am_ ((by rw [hg]; exact (below_size (hx_ HB)) : w.heap.size ≤ gb209)); have n3_ := am_ ((by rw [hg]; exact (below_size (hx_ HB)) : w.heap.size ≤ gb209)); clear HB; have HB := n0_; have BK209 := n1_; have GW209 := n2_; have GE209 := n3_; clear n0_ n1_ n2_ n3_; clear hb hbox hg) | ((with_reducible refine gate_dst (N := 2) rfl ?_); refine box_event ?hg (N := 2) ?hd (cs := #[.int .u64 0, .int .u64 0, .int .u64 0, .int .u64 0, .string (⟨#[]⟩ : ByteArray), .slice none 0 0]) (t := 30) ?hr ?_; (case hd => rfl); (case hg => rfl); (case hr => first | (go_simp; done) | (go_simp; rfl)); intro gb210 hg w68 hbox hb; have n0_ := am_ (bb_ BK209 hb); have n1_ := am_ (below_step (hy_ HB) hb); have n2_ := am_ (hbox); have n3_ := am_ ((by rw [hg]; exact (below_size (hx_ HB)) : w.heap.size ≤ gb210)); have n4_ := am_ ((by rw [hg]; exact (below_size (hx_ HB)) : w.heap.size ≤ gb210)); have n5_ := am_ ((by rw [hg]; exact Nat.ne_of_lt (bl_ BK209) : gb209 ≠ gb210)); have n6_ := am_ ((by rw [hg]; exact Nat.ne_of_gt (bl_ BK209) : gb210 ≠ gb209)); clear BK209 HB; have BK209 := n0_; have HB := n1_; have BK210 := n2_; have GW210 := n3_; have GE210 := n4_; have NB209_210 := n5_; have NB210_209 := n6_; clear n0_ n1_ n2_ n3_ n4_ n5_ n6_; clear hb hbox hg) | ((with_reducible refine gate_dst (N := 3) rfl ?_); refine box_event ?hg (N := 3) ?hd (cs := #[.string (⟨#[]⟩ : ByteArray), .string (⟨#[]⟩ : ByteArray), .int .i64 0, .bool false]) (t := 34) ?hr ?_; (case hd => rfl); (case hg => rfl); (case hr => first | (go_simp; done) | (go_simp; rfl)); intro gb211 hg w69 hbox hb; have n0_ := am_ (bb_ BK209 hb); have n1_ := am_ (bb_ BK210 hb); have n2_ := am_ (below_step (hy_ HB) hb); have n3_ := am_ (hbox); have n4_ := am_ ((by rw [hg]; exact (below_size (hx_ HB)) : w.heap.size ≤ gb211)); have n5_ := am_ ((by rw [hg]; exact (below_size (hx_ HB)) : w.heap.size ≤ gb211)); have n6_ := am_ ((by rw [hg]; exact Nat.ne_of_lt (bl_ BK209) : gb209 ≠ gb211)); have n7_ := am_ ((by rw [hg]; exact Nat.ne_of_gt (bl_ BK209) : gb211 ≠ gb209)); have n8_ := am_ ((by rw [hg]; exact Nat.ne_of_lt (bl_ BK210) : gb210 ≠ gb211)); have n9_ := am_ ((by rw [hg]; exact Nat.ne_of_gt (bl_ BK210) : gb211 ≠ gb210)); clear BK209 BK210 HB; have BK209 := n0_; have BK210 := n1_; have HB := n2_; have BK211 := n3_; have GW211 := n4_; have GE211 := n5_; have NB209_211 := n6_; have NB211_209 := n7_; have NB210_211 := n8_; have NB211_210 := n9_; clear n0_ n1_ n2_ n3_ n4_ n5_ n6_ n7_ n8_ n9_; clear hb hbox hg; have hnb70 := NB209_210.out; have hnc70 := NB210_209.out; have hnb71 := NB209_211.out; have hnc71 := NB211_209.out; have hcz72_0 : w69.cell? ⟨gb209, 0, none⟩ = some (.string a0_0) := (blk_cell BK209.out 0).trans rfl; have hcz72_1 : w69.cell? ⟨gb209, 1, none⟩ = some (.string a0_1) := (blk_cell BK209.out 1).trans rfl; have hcz72_2 : w69.cell? ⟨gb209, 2, none⟩ = some (.int .i64 a0_2) := (blk_cell BK209.out 2).trans rfl; have hcz72_3 : w69.cell? ⟨gb209, 3, none⟩ = some (.bool a0_3) := (blk_cell BK209.out 3).trans rfl; have hfz72_0 := blk_frozen BK209.out 0; have hfz72_1 := blk_frozen BK209.out 1; have hfz72_2 := blk_frozen BK209.out 2; have hfz72_3 := blk_frozen BK209.out 3) | ((with_reducible refine gate_callee (f := 49) rfl ?_); refine goesL_ (some 11) rfl rfl Try.func49 (by kernel_rfl) rfl #[.agg #[.string a0_0, .string a0_1, .int .i64 a0_2, .bool a0_3]] rfl (by (try simp only [List.map_toArray, List.map_cons, List.map_nil]); first | done | rfl | (simp only [List.length_drop, List.length_take]; rfl)) ?_; (with_reducible refine (tape_Read.calls a0_0 a0_1 a0_2 a0_3 t212 t213 _ A2.out).mono ?_); rintro e w73 ⟨rfl, hb⟩; refine ⟨_, rfl, ?_⟩; have n0_ := am_ (bb_ BK209 hb); have n1_ := am_ (bb_ BK210 hb); have n2_ := am_ (bb_ BK211 hb); have n3_ := am_ (below_step (hy_ HB) hb); clear BK209 BK210 BK211 HB; have BK209 := n0_; have BK210 := n1_; have BK211 := n2_; have HB := n3_; clear n0_ n1_ n2_ n3_; (try clear hb); (try clear hb2); (try clear hk); (try clear hi)) | ((with_reducible refine gate_callee (f := 23) rfl ?_); refine goesL_ (some 21) rfl rfl Try.func23 (by kernel_rfl) rfl #[.string t212] rfl (by (try simp only [List.map_toArray, List.map_cons, List.map_nil]); first | done | rfl | (simp only [List.length_drop, List.length_take]; rfl)) ?_; (with_reducible refine (note_Read.calls k t212 t214 t215 _ A4.out).mono ?_); rintro e w74 ⟨v216, rfl, ho0, hb⟩; refine ⟨_, rfl, ?_⟩; have n0_ := am_ (Kd.R_lower ho0 (below_size (hx_ HB))); have n1_ := am_ (bb_ BK209 hb); have n2_ := am_ (bb_ BK210 hb); have n3_ := am_ (bb_ BK211 hb); have n4_ := am_ (below_step (hy_ HB) hb); clear BK209 BK210 BK211 HB; have HO217 := n0_; have BK209 := n1_; have BK210 := n2_; have BK211 := n3_; have HB := n4_; clear n0_ n1_ n2_ n3_ n4_; (try clear hb); (try clear hb2); (try clear hk); (try clear hi); (try clear ho0)))
   have n0_ := am_ (Kd.R_drew HO217.out)
   have n1_ := am_ (blk_drew BK209.out)
   have n2_ := am_ (blk_drew BK210.out)
   have n3_ := am_ (blk_drew BK211.out)
   have n4_ := am_ (below_drew1 HB.out)
   clear HO217
   clear BK209
   clear BK210
   clear BK211
   clear HB
   have HO217 := n0_
   have BK209 := n1_
   have BK210 := n2_
   have BK211 := n3_
   have HB := n4_
   clear n0_ n1_ n2_ n3_ n4_
   obtain ⟨Ao76, co76, eo76⟩ := Kd.R_slice HO217.out
   (first | subst eo76 | (injection eo76 with f1_ f2_ f3_; have f4_ := f1_.symm; have f5_ := f3_.symm; clear f1_ f2_ f3_; subst f4_; subst f5_))
   refine start_ (n := 6) (S := fun w' => w'.cell? ⟨gb209, 0, none⟩ = some (.string a0_0) ∧ w'.cell? ⟨gb209, 1, none⟩ = some (.string a0_1) ∧ w'.cell? ⟨gb209, 2, none⟩ = some (.int .i64 a0_2) ∧ w'.cell? ⟨gb209, 3, none⟩ = some (.bool a0_3)) (ds := []) bN11_ (by kernel_rfl) rfl rfl ⟨(blk_cell BK209.out 0).trans rfl, (blk_cell BK209.out 1).trans rfl, (blk_cell BK209.out 2).trans rfl, (blk_cell BK209.out 3).trans rfl⟩ (fun hHeld => ?_)
   generalize w74.drew = w75 at HO217 BK209 BK210 BK211 HB hHeld ⊢
   refine pure_ (i := 0) (N := some 41) (v := ?_) (a' := ?_) bN12_ rfl rfl (by kernel_rfl) (fun _ _ _ h => h) (Or.inl ⟨by rfl, ?_⟩) ?_ ?_; rotate_left; (intro w'; go_simp; with_reducible rfl); rotate_left; (simp only [Act.put, List.setIfInBounds_toArray, List.set_cons_zero, List.set_cons_succ, i64_w, i32_w]; rfl)
   refine take_ (i := 2) (N := some 43) (v := ?_) (a' := ?_) bN13_ rfl rfl (by kernel_rfl) (fun _ _ _ h => h) (Or.inl ⟨by rfl, ?_⟩) hHeld ?_ ?_; rotate_left; (rintro w' ⟨s0, s1, s2, s3⟩; go_simp; with_reducible rfl); rotate_left; (simp only [Act.put, List.setIfInBounds_toArray, List.set_cons_zero, List.set_cons_succ, i64_w, i32_w]; rfl)
   refine one_ (i := 1) (N := some 42) bN14_ rfl rfl (by kernel_rfl) (by decide) (fun K hK => ?_)
   refine goes_ Try.func16 (by kernel_rfl) rfl #[.slice Ao76 t214.length co76] (by rfl) rfl rfl (by (try simp only [List.map_toArray, List.map_cons, List.map_nil]); first | done | rfl | (simp only [List.length_drop, List.length_take]; rfl)) ?_
   with_reducible refine (note_Fold.calls _ _ t214 t231 t232 t233 t234 t235 t236 _ ?side1 ?side2 A66.out).mono ?_
   (case side1 => repeat (first | exact (Kd.R_reads' HO217.out).2.2 | (with_reducible refine Kd.C_alloc ?_ _) | (with_reducible refine Kd.C_drewN ?_ _) | (with_reducible refine Kd.C_drew ?_)))
   (case side2 => exact (Kd.R_reads' HO217.out).2.1)
   rintro e w77 ⟨v237, rfl, ho0, hb⟩
   refine ⟨_, rfl, ?_⟩
   have n0_ := am_ (Kd.R_below (rx_ HO217) hb)
   have n1_ := am_ (Kd.R_lower ho0 (below_size (hx_ HB)))
   have n2_ := am_ (bb_ BK209 hb)
   have n3_ := am_ (bb_ BK210 hb)
   have n4_ := am_ (bb_ BK211 hb)
   have n5_ := am_ (below_step (hy_ HB) hb)
   clear HO217
   clear BK209
   clear BK210
   clear BK211
   clear HB
   have HO217 := n0_
   have HO238 := n1_
   have BK209 := n2_
   have BK210 := n3_
   have BK211 := n4_
   have HB := n5_
   clear n0_ n1_ n2_ n3_ n4_ n5_
   (try clear hb)
   (try clear hb2)
   (try clear hk)
   (try clear hi)
   (try clear ho0)
   obtain ⟨Ao83, co83, eo83⟩ := Kd.R_slice HO238.out
   (first | subst eo83 | (injection eo83 with f1_ f2_ f3_; have f4_ := f1_.symm; have f5_ := f3_.symm; clear f1_ f2_ f3_; subst f4_; subst f5_))
   refine hK.out _ _ ⟨(blk_cell BK209.out 0).trans rfl, (blk_cell BK209.out 1).trans rfl, (blk_cell BK209.out 2).trans rfl, (blk_cell BK209.out 3).trans rfl⟩ (fun hHeld => ?_)
   clear hK K
   refine norm_ (a' := ?_) ?_ ?_
   rotate_left
   ·show Act.put _ (some 42) _ = _
    simp only [Act.put, List.setIfInBounds_toArray, List.set_cons_zero, List.set_cons_succ, i64_w, i32_w]
    rfl
   refine one_ (i := 3) (N := none) #[true, true, true, true, false, false] rfl rfl (by kernel_rfl) (by decide) (fun K hK => ?_)
   refine skip_ (w1 := w77.setRow gb210 #[.int .u64 t231, .int .u64 t232, .int .u64 t233, .int .u64 t234, .string t235, .slice Ao83 t236.length co83]) (by rfl) rfl (by refine exec_storeR rfl rfl ?hs_ BK210.out (by kernel_rfl) rfl ?h1_; (case hs_ => rfl); (case h1_ => rfl)) ?_
   have hH_ := And.intro (((row_cell (p := ⟨gb209, _, none⟩) NB209_210.out #[.int .u64 t231, .int .u64 t232, .int .u64 t233, .int .u64 t234, .string t235, .slice Ao83 t236.length co83]).trans (hHeld.1))) (And.intro (((row_cell (p := ⟨gb209, _, none⟩) NB209_210.out #[.int .u64 t231, .int .u64 t232, .int .u64 t233, .int .u64 t234, .string t235, .slice Ao83 t236.length co83]).trans (hHeld.2.1))) (And.intro (((row_cell (p := ⟨gb209, _, none⟩) NB209_210.out #[.int .u64 t231, .int .u64 t232, .int .u64 t233, .int .u64 t234, .string t235, .slice Ao83 t236.length co83]).trans (hHeld.2.2.1))) (((row_cell (p := ⟨gb209, _, none⟩) NB209_210.out #[.int .u64 t231, .int .u64 t232, .int .u64 t233, .int .u64 t234, .string t235, .slice Ao83 t236.length co83]).trans (hHeld.2.2.2)))))
   have n0_ := am_ (setRow_heap w77 gb210 _ #[.int .u64 t231, .int .u64 t232, .int .u64 t233, .int .u64 t234, .string t235, .slice Ao83 t236.length co83] 30 (0, 0) BK210.out)
   have n1_ := am_ (row_blk BK209.out NB209_210.out #[.int .u64 t231, .int .u64 t232, .int .u64 t233, .int .u64 t234, .string t235, .slice Ao83 t236.length co83])
   have n2_ := am_ (row_blk BK211.out NB211_210.out #[.int .u64 t231, .int .u64 t232, .int .u64 t233, .int .u64 t234, .string t235, .slice Ao83 t236.length co83])
   have n3_ := am_ (row_below HB.out GE210.out #[.int .u64 t231, .int .u64 t232, .int .u64 t233, .int .u64 t234, .string t235, .slice Ao83 t236.length co83])
   have n4_ := am_ (row_R HO238.out BK210.out (by decide) #[.int .u64 t231, .int .u64 t232, .int .u64 t233, .int .u64 t234, .string t235, .slice Ao83 t236.length co83])
   clear BK209 BK210 BK211 HB HO238
   generalize w77.setRow gb210 #[.int .u64 t231, .int .u64 t232, .int .u64 t233, .int .u64 t234, .string t235, .slice Ao83 t236.length co83] = wZ0_ at hH_ n0_ n1_ n2_ n3_ n4_ ⊢
   have BK210 := n0_
   have BK209 := n1_
   have BK211 := n2_
   have HB := n3_
   have HO238 := n4_
   clear n0_ n1_ n2_ n3_ n4_
   refine hK.out _ _ hH_ (fun hHeld => ?_)
   clear hK K
   refine one_ (i := 4) (N := none) #[true, true, true, true, true, false] rfl rfl (by kernel_rfl) (by decide) (fun K hK => ?_)
   refine skip_ (w1 := wZ0_.setRow gb211 #[.string a0_0, .string a0_1, .int .i64 a0_2, .bool a0_3]) (by rfl) rfl (by refine exec_storeR rfl rfl ?hs_ BK211.out (by kernel_rfl) rfl ?h1_; (case hs_ => rfl); (case h1_ => rfl)) ?_
   have hH_ := And.intro (((row_cell (p := ⟨gb209, _, none⟩) NB209_211.out #[.string a0_0, .string a0_1, .int .i64 a0_2, .bool a0_3]).trans (hHeld.1))) (And.intro (((row_cell (p := ⟨gb209, _, none⟩) NB209_211.out #[.string a0_0, .string a0_1, .int .i64 a0_2, .bool a0_3]).trans (hHeld.2.1))) (And.intro (((row_cell (p := ⟨gb209, _, none⟩) NB209_211.out #[.string a0_0, .string a0_1, .int .i64 a0_2, .bool a0_3]).trans (hHeld.2.2.1))) (((row_cell (p := ⟨gb209, _, none⟩) NB209_211.out #[.string a0_0, .string a0_1, .int .i64 a0_2, .bool a0_3]).trans (hHeld.2.2.2)))))
   have n0_ := am_ (setRow_heap wZ0_ gb211 _ #[.string a0_0, .string a0_1, .int .i64 a0_2, .bool a0_3] 34 (0, 0) BK211.out)
   have n1_ := am_ (row_blk BK209.out NB209_211.out #[.string a0_0, .string a0_1, .int .i64 a0_2, .bool a0_3])
   have n2_ := am_ (row_blk BK210.out NB210_211.out #[.string a0_0, .string a0_1, .int .i64 a0_2, .bool a0_3])
   have n3_ := am_ (row_below HB.out GE211.out #[.string a0_0, .string a0_1, .int .i64 a0_2, .bool a0_3])
   have n4_ := am_ (row_R HO238.out BK211.out (by decide) #[.string a0_0, .string a0_1, .int .i64 a0_2, .bool a0_3])
   clear BK209 BK210 BK211 HB HO238
   generalize wZ0_.setRow gb211 #[.string a0_0, .string a0_1, .int .i64 a0_2, .bool a0_3] = wZ1_ at hH_ n0_ n1_ n2_ n3_ n4_ ⊢
   have BK211 := n0_
   have BK209 := n1_
   have BK210 := n2_
   have HB := n3_
   have HO238 := n4_
   clear n0_ n1_ n2_ n3_ n4_
   refine hK.out _ _ hH_ (fun hHeld => ?_)
   clear hK K
   refine pure_ (i := 5) (N := some 4) (v := ?_) (a' := ?_) #[true, true, true, true, true, true] rfl rfl (by kernel_rfl) (fun _ _ _ h => h) (Or.inl ⟨by rfl, ?_⟩) ?_ ?_; rotate_left; (intro w'; go_simp; with_reducible rfl); rotate_left; (simp only [Act.put, List.setIfInBounds_toArray, List.set_cons_zero, List.set_cons_succ, i64_w, i32_w]; rfl)
   refine done_ (by kernel_rfl) ?_
   try go_wp2
   refine bodyPost_ret (results_list (rs := [.cell 2 30, .cell 3 34, .tmp 4]) rfl (by simp) (.cell gb210 30 #[.int .u64 t231, .int .u64 t232, .int .u64 t233, .int .u64 t234, .string t235, .slice Ao83 t236.length co83] (0, 0) _ rfl (bx_ BK210) Try.underlying30 rfl (by kernel_rfl) (.cell gb211 34 #[.string a0_0, .string a0_1, .int .i64 a0_2, .bool a0_3] (0, 0) _ rfl (bx_ BK211) Try.underlying34 rfl (by kernel_rfl) (.tmp .nil)))) rfl ?_
   exact ⟨_, by first | rfl | (simp [errW_none, errW_some] <;> rfl) | (simp [*, errW_none, errW_some] <;> rfl), rx_ HO238, hx_ HB⟩
 ·rw [if_neg c3] at H
  have c3b0 : (t213 == 0) = false := beq_eq_false_iff_ne.mpr c3
  have c3b1 : (t213 != 0) = true := bne_iff_ne.mpr c3
  simp only [Option.some.injEq, Prod.mk.injEq] at H
  obtain ⟨rfl, rfl, rfl, rfl, rfl, rfl, rfl, rfl, rfl, rfl, rfl⟩ := H
  go_enter Try.func21, Try.ntmps21
  try go_wp2_with (first | ((with_reducible refine gate_dst (N := 1) rfl ?_); refine box_event ?hg (N := 1) ?hd (cs := #[.string a0_0, .string a0_1, .int .i64 a0_2, .bool a0_3]) (t := 34) ?hr ?_; (case hd => rfl); (case hg => rfl); (case hr => first | (go_simp; done) | (go_simp; rfl)); intro gb209 hg w89 hbox hb; have n0_ := am_ (below_step (hy_ HB) hb); have n1_ := am_ (hbox); have n2_ := am_ ((by rw [hg]; exact (below_size (hx_ HB)) : w.heap.size ≤ gb209)); have n3_ := am_ ((by rw [hg]; exact (below_size (hx_ HB)) : w.heap.size ≤ gb209)); clear HB; have HB := n0_; have BK209 := n1_; have GW209 := n2_; have GE209 := n3_; clear n0_ n1_ n2_ n3_; clear hb hbox hg) | ((with_reducible refine gate_dst (N := 2) rfl ?_); refine box_event ?hg (N := 2) ?hd (cs := #[.int .u64 0, .int .u64 0, .int .u64 0, .int .u64 0, .string (⟨#[]⟩ : ByteArray), .slice none 0 0]) (t := 30) ?hr ?_; (case hd => rfl); (case hg => rfl); (case hr => first | (go_simp; done) | (go_simp; rfl)); intro gb210 hg w90 hbox hb; have n0_ := am_ (bb_ BK209 hb); have n1_ := am_ (below_step (hy_ HB) hb); have n2_ := am_ (hbox); have n3_ := am_ ((by rw [hg]; exact (below_size (hx_ HB)) : w.heap.size ≤ gb210)); have n4_ := am_ ((by rw [hg]; exact (below_size (hx_ HB)) : w.heap.size ≤ gb210)); have n5_ := am_ ((by rw [hg]; exact Nat.ne_of_lt (bl_ BK209) : gb209 ≠ gb210)); have n6_ := am_ ((by rw [hg]; exact Nat.ne_of_gt (bl_ BK209) : gb210 ≠ gb209)); clear BK209 HB; have BK209 := n0_; have HB := n1_; have BK210 := n2_; have GW210 := n3_; have GE210 := n4_; have NB209_210 := n5_; have NB210_209 := n6_; clear n0_ n1_ n2_ n3_ n4_ n5_ n6_; clear hb hbox hg) | ((with_reducible refine gate_dst (N := 3) rfl ?_); refine box_event ?hg (N := 3) ?hd (cs := #[.string (⟨#[]⟩ : ByteArray), .string (⟨#[]⟩ : ByteArray), .int .i64 0, .bool false]) (t := 34) ?hr ?_; (case hd => rfl); (case hg => rfl); (case hr => first | (go_simp; done) | (go_simp; rfl)); intro gb211 hg w91 hbox hb; have n0_ := am_ (bb_ BK209 hb); have n1_ := am_ (bb_ BK210 hb); have n2_ := am_ (below_step (hy_ HB) hb); have n3_ := am_ (hbox); have n4_ := am_ ((by rw [hg]; exact (below_size (hx_ HB)) : w.heap.size ≤ gb211)); have n5_ := am_ ((by rw [hg]; exact (below_size (hx_ HB)) : w.heap.size ≤ gb211)); have n6_ := am_ ((by rw [hg]; exact Nat.ne_of_lt (bl_ BK209) : gb209 ≠ gb211)); have n7_ := am_ ((by rw [hg]; exact Nat.ne_of_gt (bl_ BK209) : gb211 ≠ gb209)); have n8_ := am_ ((by rw [hg]; exact Nat.ne_of_lt (bl_ BK210) : gb210 ≠ gb211)); have n9_ := am_ ((by rw [hg]; exact Nat.ne_of_gt (bl_ BK210) : gb211 ≠ gb210)); clear BK209 BK210 HB; have BK209 := n0_; have BK210 := n1_; have HB := n2_; have BK211 := n3_; have GW211 := n4_; have GE211 := n5_; have NB209_211 := n6_; have NB211_209 := n7_; have NB210_211 := n8_; have NB211_210 := n9_; clear n0_ n1_ n2_ n3_ n4_ n5_ n6_ n7_ n8_ n9_; clear hb hbox hg; have hnb92 := NB209_210.out; have hnc92 := NB210_209.out; have hnb93 := NB209_211.out; have hnc93 := NB211_209.out; have hcz94_0 : w91.cell? ⟨gb209, 0, none⟩ = some (.string a0_0) := (blk_cell BK209.out 0).trans rfl; have hcz94_1 : w91.cell? ⟨gb209, 1, none⟩ = some (.string a0_1) := (blk_cell BK209.out 1).trans rfl; have hcz94_2 : w91.cell? ⟨gb209, 2, none⟩ = some (.int .i64 a0_2) := (blk_cell BK209.out 2).trans rfl; have hcz94_3 : w91.cell? ⟨gb209, 3, none⟩ = some (.bool a0_3) := (blk_cell BK209.out 3).trans rfl; have hfz94_0 := blk_frozen BK209.out 0; have hfz94_1 := blk_frozen BK209.out 1; have hfz94_2 := blk_frozen BK209.out 2; have hfz94_3 := blk_frozen BK209.out 3) | ((with_reducible refine gate_callee (f := 49) rfl ?_); refine goesL_ (some 11) rfl rfl Try.func49 (by kernel_rfl) rfl #[.agg #[.string a0_0, .string a0_1, .int .i64 a0_2, .bool a0_3]] rfl (by (try simp only [List.map_toArray, List.map_cons, List.map_nil]); first | done | rfl | (simp only [List.length_drop, List.length_take]; rfl)) ?_; (with_reducible refine (tape_Read.calls a0_0 a0_1 a0_2 a0_3 t212 t213 _ A2.out).mono ?_); rintro e w95 ⟨rfl, hb⟩; refine ⟨_, rfl, ?_⟩; have n0_ := am_ (bb_ BK209 hb); have n1_ := am_ (bb_ BK210 hb); have n2_ := am_ (bb_ BK211 hb); have n3_ := am_ (below_step (hy_ HB) hb); clear BK209 BK210 BK211 HB; have BK209 := n0_; have BK210 := n1_; have BK211 := n2_; have HB := n3_; clear n0_ n1_ n2_ n3_; (try clear hb); (try clear hb2); (try clear hk); (try clear hi)))
  have n0_ := am_ (blk_drew BK209.out)
  have n1_ := am_ (blk_drew BK210.out)
  have n2_ := am_ (blk_drew BK211.out)
  have n3_ := am_ (below_drew1 HB.out)
  clear BK209
  clear BK210
  clear BK211
  clear HB
  have BK209 := n0_
  have BK210 := n1_
  have BK211 := n2_
  have HB := n3_
  clear n0_ n1_ n2_ n3_
  refine start_ (n := 6) (S := fun w' => w'.cell? ⟨gb209, 0, none⟩ = some (.string a0_0) ∧ w'.cell? ⟨gb209, 1, none⟩ = some (.string a0_1) ∧ w'.cell? ⟨gb209, 2, none⟩ = some (.int .i64 a0_2) ∧ w'.cell? ⟨gb209, 3, none⟩ = some (.bool a0_3)) (ds := []) bN11_ (by kernel_rfl) rfl rfl ⟨(blk_cell BK209.out 0).trans rfl, (blk_cell BK209.out 1).trans rfl, (blk_cell BK209.out 2).trans rfl, (blk_cell BK209.out 3).trans rfl⟩ (fun hHeld => ?_)
  generalize w95.drew = w96 at BK209 BK210 BK211 HB hHeld ⊢
  refine pure_ (i := 0) (N := some 16) (v := ?_) (a' := ?_) bN12_ rfl rfl (by kernel_rfl) (fun _ _ _ h => h) (Or.inl ⟨by rfl, ?_⟩) ?_ ?_; rotate_left; (intro w'; go_simp; with_reducible rfl); rotate_left; (simp only [Act.put, List.setIfInBounds_toArray, List.set_cons_zero, List.set_cons_succ, i64_w, i32_w]; rfl)
  refine pure_ (i := 2) (N := some 18) (v := ?_) (a' := ?_) bN13_ rfl rfl (by kernel_rfl) (fun _ _ _ h => h) (Or.inl ⟨by rfl, ?_⟩) ?_ ?_; rotate_left; (intro w'; go_simp; with_reducible rfl); rotate_left; (simp only [Act.put, List.setIfInBounds_toArray, List.set_cons_zero, List.set_cons_succ, i64_w, i32_w]; rfl)
  refine take_ (i := 1) (N := some 17) (v := ?_) (a' := ?_) bN14_ rfl rfl (by kernel_rfl) (fun _ _ _ h => h) (Or.inl ⟨by rfl, ?_⟩) hHeld ?_ ?_; rotate_left; (rintro w' ⟨s0, s1, s2, s3⟩; go_simp; with_reducible rfl); rotate_left; (simp only [Act.put, List.setIfInBounds_toArray, List.set_cons_zero, List.set_cons_succ, i64_w, i32_w]; rfl)
  refine one_ (i := 3) (N := none) #[true, true, true, true, false, false] rfl rfl (by kernel_rfl) (by decide) (fun K hK => ?_)
  refine skip_ (w1 := w96.setRow gb210 #[.int .u64 0, .int .u64 0, .int .u64 0, .int .u64 0, .string (⟨#[]⟩ : ByteArray), .slice none 0 0]) (by rfl) rfl (by refine exec_storeR rfl rfl ?hs_ BK210.out (by kernel_rfl) rfl ?h1_; (case hs_ => rfl); (case h1_ => rfl)) ?_
  have hH_ := And.intro (((row_cell (p := ⟨gb209, _, none⟩) NB209_210.out #[.int .u64 0, .int .u64 0, .int .u64 0, .int .u64 0, .string (⟨#[]⟩ : ByteArray), .slice none 0 0]).trans (hHeld.1))) (And.intro (((row_cell (p := ⟨gb209, _, none⟩) NB209_210.out #[.int .u64 0, .int .u64 0, .int .u64 0, .int .u64 0, .string (⟨#[]⟩ : ByteArray), .slice none 0 0]).trans (hHeld.2.1))) (And.intro (((row_cell (p := ⟨gb209, _, none⟩) NB209_210.out #[.int .u64 0, .int .u64 0, .int .u64 0, .int .u64 0, .string (⟨#[]⟩ : ByteArray), .slice none 0 0]).trans (hHeld.2.2.1))) (((row_cell (p := ⟨gb209, _, none⟩) NB209_210.out #[.int .u64 0, .int .u64 0, .int .u64 0, .int .u64 0, .string (⟨#[]⟩ : ByteArray), .slice none 0 0]).trans (hHeld.2.2.2)))))
  have n0_ := am_ (setRow_heap w96 gb210 _ #[.int .u64 0, .int .u64 0, .int .u64 0, .int .u64 0, .string (⟨#[]⟩ : ByteArray), .slice none 0 0] 30 (0, 0) BK210.out)
  have n1_ := am_ (row_blk BK209.out NB209_210.out #[.int .u64 0, .int .u64 0, .int .u64 0, .int .u64 0, .string (⟨#[]⟩ : ByteArray), .slice none 0 0])
  have n2_ := am_ (row_blk BK211.out NB211_210.out #[.int .u64 0, .int .u64 0, .int .u64 0, .int .u64 0, .string (⟨#[]⟩ : ByteArray), .slice none 0 0])
  have n3_ := am_ (row_below HB.out GE210.out #[.int .u64 0, .int .u64 0, .int .u64 0, .int .u64 0, .string (⟨#[]⟩ : ByteArray), .slice none 0 0])
  clear BK209 BK210 BK211 HB
  generalize w96.setRow gb210 #[.int .u64 0, .int .u64 0, .int .u64 0, .int .u64 0, .string (⟨#[]⟩ : ByteArray), .slice none 0 0] = wZ0_ at hH_ n0_ n1_ n2_ n3_ ⊢
  have BK210 := n0_
  have BK209 := n1_
  have BK211 := n2_
  have HB := n3_
  clear n0_ n1_ n2_ n3_
  refine hK.out _ _ hH_ (fun hHeld => ?_)
  clear hK K
  refine one_ (i := 4) (N := none) #[true, true, true, true, true, false] rfl rfl (by kernel_rfl) (by decide) (fun K hK => ?_)
  refine skip_ (w1 := wZ0_.setRow gb211 #[.string a0_0, .string a0_1, .int .i64 a0_2, .bool a0_3]) (by rfl) rfl (by refine exec_storeR rfl rfl ?hs_ BK211.out (by kernel_rfl) rfl ?h1_; (case hs_ => rfl); (case h1_ => rfl)) ?_
  have hH_ := And.intro (((row_cell (p := ⟨gb209, _, none⟩) NB209_211.out #[.string a0_0, .string a0_1, .int .i64 a0_2, .bool a0_3]).trans (hHeld.1))) (And.intro (((row_cell (p := ⟨gb209, _, none⟩) NB209_211.out #[.string a0_0, .string a0_1, .int .i64 a0_2, .bool a0_3]).trans (hHeld.2.1))) (And.intro (((row_cell (p := ⟨gb209, _, none⟩) NB209_211.out #[.string a0_0, .string a0_1, .int .i64 a0_2, .bool a0_3]).trans (hHeld.2.2.1))) (((row_cell (p := ⟨gb209, _, none⟩) NB209_211.out #[.string a0_0, .string a0_1, .int .i64 a0_2, .bool a0_3]).trans (hHeld.2.2.2)))))
  have n0_ := am_ (setRow_heap wZ0_ gb211 _ #[.string a0_0, .string a0_1, .int .i64 a0_2, .bool a0_3] 34 (0, 0) BK211.out)
  have n1_ := am_ (row_blk BK209.out NB209_211.out #[.string a0_0, .string a0_1, .int .i64 a0_2, .bool a0_3])
  have n2_ := am_ (row_blk BK210.out NB210_211.out #[.string a0_0, .string a0_1, .int .i64 a0_2, .bool a0_3])
  have n3_ := am_ (row_below HB.out GE211.out #[.string a0_0, .string a0_1, .int .i64 a0_2, .bool a0_3])
  clear BK209 BK210 BK211 HB
  generalize wZ0_.setRow gb211 #[.string a0_0, .string a0_1, .int .i64 a0_2, .bool a0_3] = wZ1_ at hH_ n0_ n1_ n2_ n3_ ⊢
  have BK211 := n0_
  have BK209 := n1_
  have BK210 := n2_
  have HB := n3_
  clear n0_ n1_ n2_ n3_
  refine hK.out _ _ hH_ (fun hHeld => ?_)
  clear hK K
  refine pure_ (i := 5) (N := some 4) (v := ?_) (a' := ?_) #[true, true, true, true, true, true] rfl rfl (by kernel_rfl) (fun _ _ _ h => h) (Or.inl ⟨by rfl, ?_⟩) ?_ ?_; rotate_left; (intro w'; go_simp; with_reducible rfl); rotate_left; (simp only [Act.put, List.setIfInBounds_toArray, List.set_cons_zero, List.set_cons_succ, i64_w, i32_w]; rfl)
  refine done_ (by kernel_rfl) ?_
  try go_wp2
  refine bodyPost_ret (results_list (rs := [.cell 2 30, .cell 3 34, .tmp 4]) rfl (by simp) (.cell gb210 30 #[.int .u64 0, .int .u64 0, .int .u64 0, .int .u64 0, .string (⟨#[]⟩ : ByteArray), .slice none 0 0] (0, 0) _ rfl (bx_ BK210) Try.underlying30 rfl (by kernel_rfl) (.cell gb211 34 #[.string a0_0, .string a0_1, .int .i64 a0_2, .bool a0_3] (0, 0) _ rfl (bx_ BK211) Try.underlying34 rfl (by kernel_rfl) (.tmp .nil)))) rfl ?_
  exact ⟨_, by first | rfl | (simp [errW_none, errW_some] <;> rfl) | (simp [*, errW_none, errW_some] <;> rfl), by first | exact Kd.R_nil _ _ _ _ _ | exact Kd.N_nil _ _ _ _ _ | exact Kd.V_nil _ _ _ _ _ | exact Kd.Q_nil _ _ _ _ _ | exact Kd.S_nil _ _ _ _ _, hx_ HB⟩
end Go.Proofs.Ytfjhlcbpogihmaa.Pr
