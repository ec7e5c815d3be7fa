/- What the program's functions compute, and that they compute it: printed out of the translation by a program of this session's (px.py, over the kit's printer). Conditions: none. -/
import Derived.Test.YtfjhlcbpogihmaaGNoteBackPr0
import Derived.Test.YtfjhlcbpogihmaaGNoteBackPr25
namespace Go.Proofs.Ytfjhlcbpogihmaa.Pr
open Go.RowKit Go.Proofs.YtfjhlcbpogihmaaW.PrintWords Go.Proofs.YtfjhlcbpogihmaaW.PrintLast Go.Proofs.YtfjhlcbpogihmaaW.PrintMore
attribute [local go_sem] max2_int min2_int max_two min_two max_three min_three max_four min_four
set_option linter.unusedVariables false
set_option linter.unusedSimpArgs false
/-! ### note_Least: function 26 -/
mutual
def note_Least.j0 : Nat → List (S39) → Int → Int → Int → Int → ByteArray → List (S75) → Option ((List (S39)) × Int)
  | 0, _, _, _, _, _, _, _ => none
  | k + 1, x4, x316000, x316001, x316002, x316003, x316004, x316005 => note_Least.l0 k x4 x316005 (x316005.length : Int) 0 x316000 x316001 x316002 x316003 x316004 x316005
def note_Least.l0 : Nat → List (S39) → List (S75) → Int → Int → Int → Int → Int → Int → ByteArray → List (S75) → Option ((List (S39)) × Int)
  | 0, _, _, _, _, _, _, _, _, _, _ => none
  | k + 1, x4, x35, x36, x37, x316000, x316001, x316002, x316003, x316004, x316005 => if x37 < x36 then (if 0 ≤ x37 then (if x37 < (x35.length : Int) then (if x4.length < 2932031007402 then (note_Least.l0 k (x4 ++ [(⟨2, IntKind.u64.wrap ((IntKind.u64.wrap (x316002 + (IntKind.u64.wrap (x37)))) + 1), (rd_T75 x35 x37).f0, 0, (rd_T75 x35 x37).f1⟩ : S39)]) x35 x36 (wrap64 (x37 + 1)) x316000 x316001 x316002 x316003 x316004 x316005) else (none)) else (none)) else (none)) else (some (x4, 0))
end
def note_Least.f (k : Nat) (a0_0 : Int) (a0_1 : Int) (a0_2 : Int) (a0_3 : Int) (a0_4 : ByteArray) (l0_5 : List (S75)) : Option ((List (S39)) × Int) := (note_May.f k a0_0 a0_1 a0_2 a0_3 a0_4 l0_5).bind fun t316 => (if t316 = true then ((some (([(⟨1, 0, a0_0, a0_1, (⟨#[]⟩ : ByteArray)⟩ : S39)] : List (S39)) : List (S39))).bind fun y317 => (if a0_2 > 0 then (if y317.length < 2932031007402 then (note_Least.j0 k (y317 ++ [(⟨4, a0_2, a0_3, 0, a0_4⟩ : S39)]) a0_0 a0_1 a0_2 a0_3 a0_4 l0_5) else (none)) else (note_Least.j0 k y317 a0_0 a0_1 a0_2 a0_3 a0_4 l0_5))) else (some (([] : List (S39)), 1)))
namespace Sh26
theorem am_ {p : Prop} (h : p) : Aside0 p := ⟨h⟩
theorem bx_ {Q P : Prop} (b : Aside0 Q) (h : Q → P := by intro hq_; (with_reducible repeat (first | refine blk_drewN ?_ _ | refine blk_drew ?_ | refine blk_alloc ?_ _)); exact hq_) : P := h b.out
theorem hx_ {Q P : Prop} (b : Aside0 Q) (h : Q → P := by intro hq_; repeat (first | (with_reducible first | exact hq_ | apply below_alloc | apply pw_below_drewN | apply below_drew1 | refine below_set ?_ (Aside0.out (by assumption))) | exact hq_)) : P := h b.out
theorem rx_ {Q P : Prop} (b : Aside0 Q) (h : Q → P := by intro hq_; (with_reducible repeat (first | apply Kd.R_alloc | apply Kd.R_drewN | apply Kd.R_drew)); exact hq_) : P := h b.out
end Sh26
open Sh26
set_option maxHeartbeats 8000000 in
set_option maxRecDepth 100000 in
theorem note_Least.calls (k : Nat) (a0_0 : Int) (a0_1 : Int) (a0_2 : Int) (a0_3 : Int) (a0_4 : ByteArray) (A0_5 : Option Addr) (c0_5 : Nat) (l0_5 : List (S75)) (r1 : List (S39)) (r2 : Int) (w : World) (hr0_5 : Kd.C k75 w A0_5 l0_5.length l0_5) (hc0_5 : l0_5.length ≤ c0_5) (h : note_Least.f k a0_0 a0_1 a0_2 a0_3 a0_4 l0_5 = some (r1, r2)) :
  Calls Try.prog 26 #[.agg #[.int .u64 a0_0, .int .u64 a0_1, .int .u64 a0_2, .int .u64 a0_3, .string a0_4, .slice A0_5 l0_5.length c0_5]] w fun e w' => ∃ v0_ : Value, e = .returned (.tuple #[v0_, .int .i64 r2]) ∧ Kd.R k39 39 w' w.heap.size (fun _ => True) v0_ r1 ∧ Below w.heap.size w w' := by
 have hu30 := Try.underlying30
 have hu39 := Try.underlying39
 have hu75 := Try.underlying75
 have HR0_5 := am_ hr0_5
 have HC0_5 := am_ hc0_5
 clear hr0_5 hc0_5
 have HB := am_ (Below.refl w.heap.size w)
 have H : ((note_May.f k a0_0 a0_1 a0_2 a0_3 a0_4 l0_5).bind fun t316 => (if t316 = true then ((some (([(⟨1, 0, a0_0, a0_1, (⟨#[]⟩ : ByteArray)⟩ : S39)] : List (S39)) : List (S39))).bind fun y317 => (if a0_2 > 0 then (if y317.length < 2932031007402 then (note_Least.j0 k (y317 ++ [(⟨4, a0_2, a0_3, 0, a0_4⟩ : S39)]) a0_0 a0_1 a0_2 a0_3 a0_4 l0_5) else (none)) else (note_Least.j0 k y317 a0_0 a0_1 a0_2 a0_3 a0_4 l0_5))) else (some (([] : List (S39)), 1)))) = some (r1, r2) := h
 clear h
 replace H := Option.bind_eq_some_iff.mp H
 obtain ⟨t316, A20, H⟩ := H
 replace H : (if t316 = true then ((some (([(⟨1, 0, a0_0, a0_1, (⟨#[]⟩ : ByteArray)⟩ : S39)] : List (S39)) : List (S39))).bind fun y317 => (if a0_2 > 0 then (if y317.length < 2932031007402 then (note_Least.j0 k (y317 ++ [(⟨4, a0_2, a0_3, 0, a0_4⟩ : S39)]) a0_0 a0_1 a0_2 a0_3 a0_4 l0_5) else (none)) else (note_Least.j0 k y317 a0_0 a0_1 a0_2 a0_3 a0_4 l0_5))) else (some (([] : List (S39)), 1))) = some (r1, r2) := H
 have A2 := am_ A20
 clear A20
 by_cases c3 : t316 = true
 ·subst c3
  have H1 : ((some (([(⟨1, 0, a0_0, a0_1, (⟨#[]⟩ : ByteArray)⟩ : S39)] : List (S39)) : List (S39))).bind fun y317 => (if a0_2 > 0 then (if y317.length < 2932031007402 then (note_Least.j0 k (y317 ++ [(⟨4, a0_2, a0_3, 0, a0_4⟩ : S39)]) a0_0 a0_1 a0_2 a0_3 a0_4 l0_5) else (none)) else (note_Least.j0 k y317 a0_0 a0_1 a0_2 a0_3 a0_4 l0_5))) = some (r1, r2) := by rw [if_pos rfl] at H; exact H
  clear H
  have H := H1
  clear H1
  obtain ⟨y317, hy317⟩ : ∃ y_ : List (S39), y_ = (([(⟨1, 0, a0_0, a0_1, (⟨#[]⟩ : ByteArray)⟩ : S39)] : List (S39))) := ⟨_, rfl⟩
  replace H : (if a0_2 > 0 then (if y317.length < 2932031007402 then (note_Least.j0 k (y317 ++ [(⟨4, a0_2, a0_3, 0, a0_4⟩ : S39)]) a0_0 a0_1 a0_2 a0_3 a0_4 l0_5) else (none)) else (note_Least.j0 k y317 a0_0 a0_1 a0_2 a0_3 a0_4 l0_5)) = some (r1, r2) := by first | (rw [hy317]; with_reducible exact H) | (have H2_ := (Option.bind_some _ _).symm.trans H; rw [hy317]; with_reducible exact H2_) | (have H2_ := (Option.bind_some _ _).symm.trans H; with_reducible exact H2_) | with_reducible exact H | (rw [hy317]; exact H) | exact H
  have Ny317 := am_ hy317
  clear hy317
  have HC4 := am_ H
  clear H
  go_enter Try.func26, Try.ntmps26
  go_upto_if 19 with (first | ((with_reducible refine gate_dst (N := 1) rfl ?_); refine box_event ?hg (N := 1) ?hd (cs := #[.int .u64 a0_0, .int .u64 a0_1, .int .u64 a0_2, .int .u64 a0_3, .string a0_4, .slice A0_5 l0_5.length c0_5]) (t := 30) ?hr ?_; (case hd => rfl); (case hg => rfl); (case hr => first | (go_simp; done) | (go_simp; rfl)); intro gb315 hg w5 hbox hb; have n0_ := am_ (below_step (by repeat (first | (with_reducible first | exact HB.out | apply below_alloc | apply pw_below_drewN | apply below_drew1) | exact HB.out | exact Below.refl _ _)) hb); have n1_ := am_ (hbox); have n2_ := am_ ((by rw [hg]; exact (below_size (hx_ HB)) : w.heap.size ≤ gb315)); have n3_ := am_ ((by rw [hg]; exact (below_size (hx_ HB)) : w.heap.size ≤ gb315)); clear HB; have HB := n0_; have BK315 := n1_; have GW315 := n2_; have GE315 := n3_; clear n0_ n1_ n2_ n3_; clear hb hbox hg; have hcz6_0 : w5.cell? ⟨gb315, 0, none⟩ = some (.int .u64 a0_0) := (blk_cell BK315.out 0).trans rfl; have hcz6_1 : w5.cell? ⟨gb315, 1, none⟩ = some (.int .u64 a0_1) := (blk_cell BK315.out 1).trans rfl; have hcz6_2 : w5.cell? ⟨gb315, 2, none⟩ = some (.int .u64 a0_2) := (blk_cell BK315.out 2).trans rfl; have hcz6_3 : w5.cell? ⟨gb315, 3, none⟩ = some (.int .u64 a0_3) := (blk_cell BK315.out 3).trans rfl; have hcz6_4 : w5.cell? ⟨gb315, 4, none⟩ = some (.string a0_4) := (blk_cell BK315.out 4).trans rfl; have hcz6_5 : w5.cell? ⟨gb315, 5, none⟩ = some (.slice A0_5 l0_5.length c0_5) := (blk_cell BK315.out 5).trans rfl; have hfz6_0 := blk_frozen BK315.out 0; have hfz6_1 := blk_frozen BK315.out 1; have hfz6_2 := blk_frozen BK315.out 2; have hfz6_3 := blk_frozen BK315.out 3; have hfz6_4 := blk_frozen BK315.out 4; have hfz6_5 := blk_frozen BK315.out 5) | ((with_reducible refine gate_callee (f := 29) rfl ?_); refine goesL_ (some 8) rfl rfl Try.func29 (by kernel_rfl) rfl #[.agg #[.int .u64 a0_0, .int .u64 a0_1, .int .u64 a0_2, .int .u64 a0_3, .string a0_4, .slice A0_5 l0_5.length c0_5]] rfl (by (try simp only [List.map_toArray, List.map_cons, List.map_nil]); first | done | rfl | (simp only [List.length_drop, List.length_take]; rfl)) ?_; (with_reducible refine (note_May.calls k a0_0 a0_1 a0_2 a0_3 a0_4 _ _ l0_5 true _ ?side1 ?side2 A2.out).mono ?_); (case side1 => repeat (first | exact (Kd.C_below HR0_5.out HB.out) | (with_reducible refine Kd.C_alloc ?_ _) | (with_reducible refine Kd.C_drewN ?_ _) | (with_reducible refine Kd.C_drew ?_))); (case side2 => exact HC0_5.out); rintro e w7 ⟨rfl, hb⟩; refine ⟨_, rfl, ?_⟩; have n0_ := am_ (blk_below (g := gb315) (o := .cells #[.int .u64 a0_0, .int .u64 a0_1, .int .u64 a0_2, .int .u64 a0_3, .string a0_4, .slice A0_5 l0_5.length c0_5] 30 (0, 0)) (bx_ BK315) hb); have n1_ := am_ (below_step (by repeat (first | (with_reducible first | exact HB.out | apply below_alloc | apply pw_below_drewN | apply below_drew1 | refine below_set ?_ GE315.out) | exact HB.out | exact Below.refl _ _)) hb); clear BK315; clear HB; have BK315 := n0_; have HB := n1_; clear n0_ n1_; (try clear hb); (try clear hb2); (try clear hk); (try clear hi); have hcz8_0 : w7.cell? ⟨gb315, 0, none⟩ = some (.int .u64 a0_0) := (blk_cell BK315.out 0).trans rfl; have hcz8_1 : w7.cell? ⟨gb315, 1, none⟩ = some (.int .u64 a0_1) := (blk_cell BK315.out 1).trans rfl; have hcz8_2 : w7.cell? ⟨gb315, 2, none⟩ = some (.int .u64 a0_2) := (blk_cell BK315.out 2).trans rfl; have hcz8_3 : w7.cell? ⟨gb315, 3, none⟩ = some (.int .u64 a0_3) := (blk_cell BK315.out 3).trans rfl; have hcz8_4 : w7.cell? ⟨gb315, 4, none⟩ = some (.string a0_4) := (blk_cell BK315.out 4).trans rfl; have hcz8_5 : w7.cell? ⟨gb315, 5, none⟩ = some (.slice A0_5 l0_5.length c0_5) := (blk_cell BK315.out 5).trans rfl; have hfz8_0 := blk_frozen BK315.out 0; have hfz8_1 := blk_frozen BK315.out 1; have hfz8_2 := blk_frozen BK315.out 2; have hfz8_3 := blk_frozen BK315.out 3; have hfz8_4 := blk_frozen BK315.out 4; have hfz8_5 := blk_frozen BK315.out 5) | ((with_reducible refine gate_dst (N := 15) rfl ?_); refine Kd.R_lit k39 _ 39 ?hg (N := 15) ?hd (xs := ([(⟨1, 0, a0_0, a0_1, (⟨#[]⟩ : ByteArray)⟩ : S39)] : List (S39))) (inner := [.int .i64 1, .int .u64 0, .int .u64 a0_0, .int .u64 a0_1, .string (⟨#[]⟩ : ByteArray)]) (ok := fun _ => True) (okp := fun _ => True) ?hr ?hp (fun _ hk => hk) trivial (Below.refl _ _) (Nat.le_refl _) (by simp) ?_; (case hd => rfl); (case hg => rfl); (case hr => first | (go_simp; done) | (go_simp; rfl)); (case hp => exact (Reps.c5 (show Kd.M k39 _ _ _ (⟨1, 0, a0_0, a0_1, (⟨#[]⟩ : ByteArray)⟩ : S39) [.int .i64 1, .int .u64 0, .int .u64 a0_0, .int .u64 a0_1, .string (⟨#[]⟩ : ByteArray)] from (k39_mkM _ _ _ (⟨1, 0, a0_0, a0_1, (⟨#[]⟩ : ByteArray)⟩ : S39) )) (Reps.none _ _))); intro v318 w9 ho10 hb hg_ hnew_; clear hg_ hnew_; (first | rw [← Ny317.out] at ho10 | (simp only [Int.reduceToNat] at ho10; rw [← Ny317.out] at ho10)); have n0_ := am_ (Kd.R_lower ho10 (below_size (hx_ HB))); have n1_ := am_ (blk_below (g := gb315) (o := .cells #[.int .u64 a0_0, .int .u64 a0_1, .int .u64 a0_2, .int .u64 a0_3, .string a0_4, .slice A0_5 l0_5.length c0_5] 30 (0, 0)) (bx_ BK315) hb); have n2_ := am_ (below_step (by repeat (first | (with_reducible first | exact HB.out | apply below_alloc | apply pw_below_drewN | apply below_drew1 | refine below_set ?_ GE315.out) | exact HB.out | exact Below.refl _ _)) hb); clear BK315; clear HB; have HO319 := n0_; have BK315 := n1_; have HB := n2_; clear n0_ n1_ n2_; clear hb ho10; have hcz11_0 : w9.cell? ⟨gb315, 0, none⟩ = some (.int .u64 a0_0) := (blk_cell BK315.out 0).trans rfl; have hcz11_1 : w9.cell? ⟨gb315, 1, none⟩ = some (.int .u64 a0_1) := (blk_cell BK315.out 1).trans rfl; have hcz11_2 : w9.cell? ⟨gb315, 2, none⟩ = some (.int .u64 a0_2) := (blk_cell BK315.out 2).trans rfl; have hcz11_3 : w9.cell? ⟨gb315, 3, none⟩ = some (.int .u64 a0_3) := (blk_cell BK315.out 3).trans rfl; have hcz11_4 : w9.cell? ⟨gb315, 4, none⟩ = some (.string a0_4) := (blk_cell BK315.out 4).trans rfl; have hcz11_5 : w9.cell? ⟨gb315, 5, none⟩ = some (.slice A0_5 l0_5.length c0_5) := (blk_cell BK315.out 5).trans rfl; have hfz11_0 := blk_frozen BK315.out 0; have hfz11_1 := blk_frozen BK315.out 1; have hfz11_2 := blk_frozen BK315.out 2; have hfz11_3 := blk_frozen BK315.out 3; have hfz11_4 := blk_frozen BK315.out 4; have hfz11_5 := blk_frozen BK315.out 5))
  (try simp only [Act.put, List.setIfInBounds_toArray, List.set_cons_zero, List.set_cons_succ])
  go_cut [4] (fun v4 wc => ∃ (kq : Nat) (x4_3 : List (S39)), Aside0 (note_Least.j0 kq x4_3 a0_0 a0_1 a0_2 a0_3 a0_4 l0_5 = some (r1, r2)) ∧ Aside0 (kq ≤ k) ∧ Aside0 (Kd.R k39 39 wc w.heap.size (fun _ => True) v4 x4_3) ∧ Aside0 (wc.heap[gb315]? = some (.cells #[.int .u64 a0_0, .int .u64 a0_1, .int .u64 a0_2, .int .u64 a0_3, .string a0_4, (.slice A0_5 l0_5.length c0_5)] 30 (0, 0))) ∧ Aside0 (Below w.heap.size w wc))
  case first =>
   have H := HC4.out
   clear HC4
   by_cases c12 : a0_2 > 0
   ·rw [if_pos c12] at H
    have c12b0 : decide (0 < a0_2) = true := decide_eq_true c12
    clear c12
    (first | rw [c12b0] | (simp only [i64_w, i32_w]; rw [c12b0]) | skip)
    by_cases c13 : y317.length < 2932031007402
    ·rw [if_pos c13] at H
     have LMc13 := am_ c13
     clear c13
     obtain ⟨y320, hy320⟩ : ∃ y_ : List (S39), y_ = (y317 ++ [(⟨4, a0_2, a0_3, 0, a0_4⟩ : S39)]) := ⟨_, rfl⟩
     replace H : (note_Least.j0 k y320 a0_0 a0_1 a0_2 a0_3 a0_4 l0_5) = some (r1, r2) := by first | (rw [hy320]; with_reducible exact H) | (have H2_ := (Option.bind_some _ _).symm.trans H; rw [hy320]; with_reducible exact H2_) | (have H2_ := (Option.bind_some _ _).symm.trans H; with_reducible exact H2_) | with_reducible exact H | (rw [hy320]; exact H) | exact H
     have Ny320 := am_ hy320
     clear hy320
     have H' := am_ H
     clear H
     have hcz14_0 : w9.cell? ⟨gb315, 0, none⟩ = some (.int .u64 a0_0) := (blk_cell BK315.out 0).trans rfl
     have hcz14_1 : w9.cell? ⟨gb315, 1, none⟩ = some (.int .u64 a0_1) := (blk_cell BK315.out 1).trans rfl
     have hcz14_2 : w9.cell? ⟨gb315, 2, none⟩ = some (.int .u64 a0_2) := (blk_cell BK315.out 2).trans rfl
     have hcz14_3 : w9.cell? ⟨gb315, 3, none⟩ = some (.int .u64 a0_3) := (blk_cell BK315.out 3).trans rfl
     have hcz14_4 : w9.cell? ⟨gb315, 4, none⟩ = some (.string a0_4) := (blk_cell BK315.out 4).trans rfl
     have hcz14_5 : w9.cell? ⟨gb315, 5, none⟩ = some (.slice A0_5 l0_5.length c0_5) := (blk_cell BK315.out 5).trans rfl
     have hfz14_0 := blk_frozen BK315.out 0
     have hfz14_1 := blk_frozen BK315.out 1
     have hfz14_2 := blk_frozen BK315.out 2
     have hfz14_3 := blk_frozen BK315.out 3
     have hfz14_4 := blk_frozen BK315.out 4
     have hfz14_5 := blk_frozen BK315.out 5
     go_wp2_with (first | ((with_reducible refine gate_builtin (b := .append) (xs := #[.tmp 20, .tmp 31]) rfl ?_); at_builtin; refine Kd.R_append k39 (w0 := w) w.heap.size rfl (.tmp 20) (.tmp 31) 22 39 (.agg #[(.int .i64 0), (.int .u64 0), (.int .u64 0), (.int .u64 0), (.string ⟨#[]⟩)]) 48 rfl Try.underlying22 info39 rfl (by decide) (by omega) v318 y317 (⟨4, a0_2, a0_3, 0, a0_4⟩ : S39) [.int .i64 4, .int .u64 a0_2, .int .u64 a0_3, .int .u64 0, .string a0_4] (fun _ => True) (fun _ => False) rfl rfl ?aP (fun _ hk => hk.elim) ?aF ?aO ?aB ?aS ?aL ?_; (case aP => exact k39_mkM _ _ _ (⟨4, a0_2, a0_3, 0, a0_4⟩ : S39)); (case aB => exact (hx_ HB)); (case aF => exact (fun _ _ => trivial)); (case aO => exact (rx_ HO319)); (case aS => exact (below_size (hx_ HB))); (case aL => have := LMc13.out; omega); intro v321 w15 ho hb hg hat; rw [← Ny320.out] at ho; have n0_ := am_ (blk_grown (g := gb315) (o := .cells #[.int .u64 a0_0, .int .u64 a0_1, .int .u64 a0_2, .int .u64 a0_3, .string a0_4, .slice A0_5 l0_5.length c0_5] 30 (0, 0)) (bx_ BK315) hg (Kd.R_ne HO319.out BK315.out (by decide))); have n1_ := am_ (hb); have n2_ := am_ (ho); clear BK315; clear HB; clear HO319; have BK315 := n0_; have HB := n1_; have HO322 := n2_; clear n0_ n1_ n2_; clear ho hb hg hat))
     go_meet
     case rel => exact ⟨_, (y320), H', ⟨by first | omega | exact Nat.le_refl _⟩, ⟨rx_ HO322⟩, ⟨bx_ BK315⟩, ⟨hx_ HB⟩⟩
    ·rw [if_neg c13] at H
     exact absurd H (by simp)
   ·rw [if_neg c12] at H
    have c12b0 : decide (0 < a0_2) = false := decide_eq_false c12
    clear c12
    (first | rw [c12b0] | (simp only [i64_w, i32_w]; rw [c12b0]) | skip)
    have H' := am_ H
    clear H
    go_wp2
    go_meet
    case rel => exact ⟨_, (y317), H', ⟨by first | omega | exact Nat.le_refl _⟩, ⟨rx_ HO319⟩, ⟨bx_ BK315⟩, ⟨hx_ HB⟩⟩
  case rest =>
   clear HC4
   try clear c1
   try clear c2
   try clear p2
   try clear c3
   try clear c5
   try clear c12
   try clear c12b0
   try clear c13
   try clear hcz11_0
   try clear hcz11_1
   try clear hcz11_2
   try clear hcz11_3
   try clear hcz11_4
   try clear hcz11_5
   try clear hcz14_0
   try clear hcz14_1
   try clear hcz14_2
   try clear hcz14_3
   try clear hcz14_4
   try clear hcz14_5
   try clear hcz6_0
   try clear hcz6_1
   try clear hcz6_2
   try clear hcz6_3
   try clear hcz6_4
   try clear hcz6_5
   try clear hcz8_0
   try clear hcz8_1
   try clear hcz8_2
   try clear hcz8_3
   try clear hcz8_4
   try clear hcz8_5
   try clear hfz11_0
   try clear hfz11_1
   try clear hfz11_2
   try clear hfz11_3
   try clear hfz11_4
   try clear hfz11_5
   try clear hfz14_0
   try clear hfz14_1
   try clear hfz14_2
   try clear hfz14_3
   try clear hfz14_4
   try clear hfz14_5
   try clear hfz6_0
   try clear hfz6_1
   try clear hfz6_2
   try clear hfz6_3
   try clear hfz6_4
   try clear hfz6_5
   try clear hfz8_0
   try clear hfz8_1
   try clear hfz8_2
   try clear hfz8_3
   try clear hfz8_4
   try clear hfz8_5
   obtain ⟨kq, x4_3, HA, HJ3, HO_4, BK315, HB⟩ := hcut
   cases kq with
   | zero => exact absurd HA.out (by simp [note_Least.j0])
   | succ kj3 =>
    have H := HA.out
    clear HA
    simp only [note_Least.j0] at H
    have H' := am_ H
    clear H
    have hcz16_0 : wc.cell? ⟨gb315, 0, none⟩ = some (.int .u64 a0_0) := (blk_cell BK315.out 0).trans rfl
    have hcz16_1 : wc.cell? ⟨gb315, 1, none⟩ = some (.int .u64 a0_1) := (blk_cell BK315.out 1).trans rfl
    have hcz16_2 : wc.cell? ⟨gb315, 2, none⟩ = some (.int .u64 a0_2) := (blk_cell BK315.out 2).trans rfl
    have hcz16_3 : wc.cell? ⟨gb315, 3, none⟩ = some (.int .u64 a0_3) := (blk_cell BK315.out 3).trans rfl
    have hcz16_4 : wc.cell? ⟨gb315, 4, none⟩ = some (.string a0_4) := (blk_cell BK315.out 4).trans rfl
    have hcz16_5 : wc.cell? ⟨gb315, 5, none⟩ = some (.slice A0_5 l0_5.length c0_5) := (blk_cell BK315.out 5).trans rfl
    have hfz16_0 := blk_frozen BK315.out 0
    have hfz16_1 := blk_frozen BK315.out 1
    have hfz16_2 := blk_frozen BK315.out 2
    have hfz16_3 := blk_frozen BK315.out 3
    have hfz16_4 := blk_frozen BK315.out 4
    have hfz16_5 := blk_frozen BK315.out 5
    go_wp2
    go_loopg [4, 37] kj3 (fun kq v4 v37 w' => ∃ (x4_2 : List (S39)) (x37_2 : Int), v37 = .int .i64 x37_2 ∧ Aside0 (note_Least.l0 kq x4_2 l0_5 (l0_5.length : Int) x37_2 a0_0 a0_1 a0_2 a0_3 a0_4 l0_5 = some (r1, r2)) ∧ Aside0 (kq ≤ kj3) ∧ Aside0 (Kd.R k39 39 w' w.heap.size (fun _ => True) v4 x4_2) ∧ Aside0 (w'.heap[gb315]? = some (.cells #[.int .u64 a0_0, .int .u64 a0_1, .int .u64 a0_2, .int .u64 a0_3, .string a0_4, (.slice A0_5 l0_5.length c0_5)] 30 (0, 0))) ∧ Aside0 (Below w.heap.size w w'))
    case atStart => exact ⟨(x4_3), (0), (by first | rfl | (simp; done) | (simp [*]; done)), H', ⟨Nat.le_refl _⟩, ⟨rx_ HO_4⟩, ⟨bx_ BK315⟩, ⟨hx_ HB⟩⟩
    case round =>
     clear H'
     try clear c1
     try clear c2
     try clear p2
     try clear c3
     try clear c5
     try clear c12
     try clear c12b0
     try clear c13
     try clear hcz11_0
     try clear hcz11_1
     try clear hcz11_2
     try clear hcz11_3
     try clear hcz11_4
     try clear hcz11_5
     try clear hcz14_0
     try clear hcz14_1
     try clear hcz14_2
     try clear hcz14_3
     try clear hcz14_4
     try clear hcz14_5
     try clear hcz16_0
     try clear hcz16_1
     try clear hcz16_2
     try clear hcz16_3
     try clear hcz16_4
     try clear hcz16_5
     try clear hcz6_0
     try clear hcz6_1
     try clear hcz6_2
     try clear hcz6_3
     try clear hcz6_4
     try clear hcz6_5
     try clear hcz8_0
     try clear hcz8_1
     try clear hcz8_2
     try clear hcz8_3
     try clear hcz8_4
     try clear hcz8_5
     try clear hfz11_0
     try clear hfz11_1
     try clear hfz11_2
     try clear hfz11_3
     try clear hfz11_4
     try clear hfz11_5
     try clear hfz14_0
     try clear hfz14_1
     try clear hfz14_2
     try clear hfz14_3
     try clear hfz14_4
     try clear hfz14_5
     try clear hfz16_0
     try clear hfz16_1
     try clear hfz16_2
     try clear hfz16_3
     try clear hfz16_4
     try clear hfz16_5
     try clear hfz6_0
     try clear hfz6_1
     try clear hfz6_2
     try clear hfz6_3
     try clear hfz6_4
     try clear hfz6_5
     try clear hfz8_0
     try clear hfz8_1
     try clear hfz8_2
     try clear hfz8_3
     try clear hfz8_4
     try clear hfz8_5
     try clear p2
     obtain ⟨x4_2, x37_2, rfl, HA, HK2, HO_4, BK315, HB⟩ := hrel
     cases gk with
     | zero => exact absurd HA.out (by simp [note_Least.l0])
     | succ k2 =>
      have H := HA.out
      clear HA
      simp only [note_Least.l0] at H
      by_cases c17 : x37_2 < (l0_5.length : Int)
      ·rw [if_pos c17] at H
       have c17b0 : decide (x37_2 < (l0_5.length : Int)) = true := decide_eq_true c17
       clear c17
       by_cases c18 : 0 ≤ x37_2
       ·rw [if_pos c18] at H
        have c18b0 : decide (0 ≤ x37_2) = true := decide_eq_true c18
        clear c18
        by_cases c19 : x37_2 < (l0_5.length : Int)
        ·rw [if_pos c19] at H
         have c19b0 : decide (x37_2 < (l0_5.length : Int)) = true := decide_eq_true c19
         clear c19
         by_cases c20 : x4_2.length < 2932031007402
         ·rw [if_pos c20] at H
          have LMc20 := am_ c20
          clear c20
          obtain ⟨y325, hy325⟩ : ∃ y_ : List (S39), y_ = (x4_2 ++ [(⟨2, IntKind.u64.wrap ((IntKind.u64.wrap (a0_2 + (IntKind.u64.wrap (x37_2)))) + 1), (rd_T75 l0_5 x37_2).f0, 0, (rd_T75 l0_5 x37_2).f1⟩ : S39)]) := ⟨_, rfl⟩
          replace H : (note_Least.l0 k2 y325 l0_5 (l0_5.length : Int) (wrap64 (x37_2 + 1)) a0_0 a0_1 a0_2 a0_3 a0_4 l0_5) = some (r1, r2) := by first | (rw [hy325]; with_reducible exact H) | (have H2_ := (Option.bind_some _ _).symm.trans H; rw [hy325]; with_reducible exact H2_) | (have H2_ := (Option.bind_some _ _).symm.trans H; with_reducible exact H2_) | with_reducible exact H | (rw [hy325]; exact H) | exact H
          have Ny325 := am_ hy325
          clear hy325
          have H' := am_ H
          clear H
          have p323 : 0 ≤ (x37_2 : Int) := of_decide_eq_true (by first | (with_reducible assumption) | assumption)
          have q323 : x37_2 < (l0_5.length : Int) := of_decide_eq_true (by first | (with_reducible assumption) | assumption)
          obtain ⟨ad323, e323, hx323_0, hx323_1⟩ := at_T75 HR0_5.out x37_2 p323 q323
          cases e323
          replace hx323_0 := (HB.out.cell (World.block_lt_of_cell? w _ hx323_0)).trans hx323_0
          replace hx323_1 := (HB.out.cell (World.block_lt_of_cell? w _ hx323_1)).trans hx323_1
          replace p323 := eq_true p323
          replace q323 := eq_true q323
          go_wp2_with (first | ((with_reducible refine gate_dst (N := 6) rfl ?_); refine box_event ?hg (N := 6) ?hd (cs := #[.int .u64 0, .string (⟨#[]⟩ : ByteArray)]) (t := 75) ?hr ?_; (case hd => rfl); (case hg => rfl); (case hr => first | (go_simp; done) | (go_simp; rfl)); intro gb324 hg w21 hbox hb; have n0_ := am_ (Kd.R_below (rx_ HO_4) hb); have n1_ := am_ (blk_below (g := gb315) (o := .cells #[.int .u64 a0_0, .int .u64 a0_1, .int .u64 a0_2, .int .u64 a0_3, .string a0_4, .slice (some ad323) l0_5.length c0_5] 30 (0, 0)) (bx_ BK315) hb); have n2_ := am_ (below_step (by repeat (first | (with_reducible first | exact HB.out | apply below_alloc | apply pw_below_drewN | apply below_drew1 | refine below_set ?_ GE315.out) | exact HB.out | exact Below.refl _ _)) hb); have n3_ := am_ (hbox); have n4_ := am_ ((by rw [hg]; exact (below_size (hx_ HB)) : w.heap.size ≤ gb324)); have n5_ := am_ ((by rw [hg]; exact (below_size (hx_ HB)) : w.heap.size ≤ gb324)); have n6_ := am_ ((by rw [hg]; exact Nat.ne_of_lt (blk_lt (g := gb315) (o := .cells #[.int .u64 a0_0, .int .u64 a0_1, .int .u64 a0_2, .int .u64 a0_3, .string a0_4, .slice (some ad323) l0_5.length c0_5] 30 (0, 0)) (bx_ BK315)) : gb315 ≠ gb324)); have n7_ := am_ ((by rw [hg]; exact Nat.ne_of_gt (blk_lt (g := gb315) (o := .cells #[.int .u64 a0_0, .int .u64 a0_1, .int .u64 a0_2, .int .u64 a0_3, .string a0_4, .slice (some ad323) l0_5.length c0_5] 30 (0, 0)) (bx_ BK315)) : gb324 ≠ gb315)); clear HO_4; clear BK315; clear HB; have HO_4 := n0_; have BK315 := n1_; have HB := n2_; have BK324 := n3_; have GW324 := n4_; have GE324 := n5_; have NB315_324 := n6_; have NB324_315 := n7_; clear n0_ n1_ n2_ n3_ n4_ n5_ n6_ n7_; clear hb hbox hg; have hnb22 := NB324_315.out; have hnc22 := NB315_324.out; have hcz23_0 : w21.cell? ⟨gb324, 0, none⟩ = some (.int .u64 0) := (blk_cell BK324.out 0).trans rfl; have hcz23_1 : w21.cell? ⟨gb324, 1, none⟩ = some (.string (⟨#[]⟩ : ByteArray)) := (blk_cell BK324.out 1).trans rfl; have hfz23_0 := blk_frozen BK324.out 0; have hfz23_1 := blk_frozen BK324.out 1; have hcz24_0 : w21.cell? ⟨gb315, 0, none⟩ = some (.int .u64 a0_0) := (blk_cell BK315.out 0).trans rfl; have hcz24_1 : w21.cell? ⟨gb315, 1, none⟩ = some (.int .u64 a0_1) := (blk_cell BK315.out 1).trans rfl; have hcz24_2 : w21.cell? ⟨gb315, 2, none⟩ = some (.int .u64 a0_2) := (blk_cell BK315.out 2).trans rfl; have hcz24_3 : w21.cell? ⟨gb315, 3, none⟩ = some (.int .u64 a0_3) := (blk_cell BK315.out 3).trans rfl; have hcz24_4 : w21.cell? ⟨gb315, 4, none⟩ = some (.string a0_4) := (blk_cell BK315.out 4).trans rfl; have hcz24_5 : w21.cell? ⟨gb315, 5, none⟩ = some (.slice (some ad323) l0_5.length c0_5) := (blk_cell BK315.out 5).trans rfl; have hfz24_0 := blk_frozen BK315.out 0; have hfz24_1 := blk_frozen BK315.out 1; have hfz24_2 := blk_frozen BK315.out 2; have hfz24_3 := blk_frozen BK315.out 3; have hfz24_4 := blk_frozen BK315.out 4; have hfz24_5 := blk_frozen BK315.out 5) | ((with_reducible refine gate_builtin (b := .append) (xs := #[.tmp 42, .tmp 55]) rfl ?_); at_builtin; refine Kd.R_append k39 (w0 := w) w.heap.size rfl (.tmp 42) (.tmp 55) 22 39 (.agg #[(.int .i64 0), (.int .u64 0), (.int .u64 0), (.int .u64 0), (.string ⟨#[]⟩)]) 48 rfl Try.underlying22 info39 rfl (by decide) (by omega) u4 x4_2 (⟨2, IntKind.u64.wrap ((IntKind.u64.wrap (a0_2 + (IntKind.u64.wrap (x37_2)))) + 1), (rd_T75 l0_5 x37_2).f0, 0, (rd_T75 l0_5 x37_2).f1⟩ : S39) [.int .i64 2, .int .u64 (IntKind.u64.wrap ((IntKind.u64.wrap (a0_2 + (IntKind.u64.wrap (x37_2)))) + 1)), .int .u64 ((rd_T75 l0_5 x37_2).f0), .int .u64 0, .string ((rd_T75 l0_5 x37_2).f1)] (fun _ => True) (fun _ => False) rfl (by first | (go_simp; done) | (go_simp; rfl)) ?aP (fun _ hk => hk.elim) ?aF ?aO ?aB ?aS ?aL ?_; (case aP => exact k39_mkM _ _ _ (⟨2, IntKind.u64.wrap ((IntKind.u64.wrap (a0_2 + (IntKind.u64.wrap (x37_2)))) + 1), (rd_T75 l0_5 x37_2).f0, 0, (rd_T75 l0_5 x37_2).f1⟩ : S39)); (case aB => exact (hx_ HB)); (case aF => exact (fun _ _ => trivial)); (case aO => exact (by (with_reducible repeat (first | apply Kd.R_alloc | apply Kd.R_drewN | apply Kd.R_drew)); exact Kd.R_mono (Kd.R_far (p := ⟨gb324, 1, none⟩) (Kd.R_far (p := ⟨gb324, 0, none⟩) (Kd.R_types HO_4.out BK324.out (by decide)) (fun _ hk => hk.2) (.int .u64 ((rd_T75 l0_5 x37_2).f0))) (fun _ hk => hk.2) (.string ((rd_T75 l0_5 x37_2).f1))) (fun _ hk => trivial))); (case aS => exact (below_size (hx_ HB))); (case aL => have := LMc20.out; omega); intro v326 w25 ho hb hg hat; rw [← Ny325.out] at ho; have n0_ := am_ (blk_grown (g := gb315) (o := .cells #[.int .u64 a0_0, .int .u64 a0_1, .int .u64 a0_2, .int .u64 a0_3, .string a0_4, .slice (some ad323) l0_5.length c0_5] 30 (0, 0)) (by (with_reducible repeat (first | refine blk_drewN ?_ _ | refine blk_drew ?_ | refine blk_alloc ?_ _)); refine blk_far ?_ NB315_324.out _; (with_reducible repeat (first | refine blk_drewN ?_ _ | refine blk_drew ?_ | refine blk_alloc ?_ _)); refine blk_far ?_ NB315_324.out _; (with_reducible repeat (first | refine blk_drewN ?_ _ | refine blk_drew ?_ | refine blk_alloc ?_ _)); exact BK315.out) hg (Kd.R_ne HO_4.out BK315.out (by decide))); have n1_ := am_ (blk_grown (g := gb324) (o := .cells #[.int .u64 ((rd_T75 l0_5 x37_2).f0), .string ((rd_T75 l0_5 x37_2).f1)] 75 (0, 0)) (by (with_reducible repeat (first | refine blk_drewN ?_ _ | refine blk_drew ?_ | refine blk_alloc ?_ _)); refine blk_put (cs := #[.int .u64 ((rd_T75 l0_5 x37_2).f0), .string (⟨#[]⟩ : ByteArray)]) ?_ 1 _ rfl; (with_reducible repeat (first | refine blk_drewN ?_ _ | refine blk_drew ?_ | refine blk_alloc ?_ _)); refine blk_put (cs := #[.int .u64 0, .string (⟨#[]⟩ : ByteArray)]) ?_ 0 _ rfl; (with_reducible repeat (first | refine blk_drewN ?_ _ | refine blk_drew ?_ | refine blk_alloc ?_ _)); exact BK324.out) hg (Kd.R_ne HO_4.out BK324.out (by decide))); have n2_ := am_ (hb); have n3_ := am_ (ho); clear BK315; clear BK324; clear HB; clear HO_4; have BK315 := n0_; have BK324 := n1_; have HB := n2_; have HO327 := n3_; clear n0_ n1_ n2_ n3_; clear ho hb hg hat))
          go_roundg k2
          case measure => have := HJ3.out; have := HK2.out; omega
          case rel => exact ⟨(y325), (wrap64 (x37_2 + 1)), (by first | rfl | (simp; done) | (simp [*]; done)), H', ⟨by have := HJ3.out; have := HK2.out; omega⟩, ⟨rx_ HO327⟩, ⟨bx_ BK315⟩, ⟨hx_ HB⟩⟩
         ·rw [if_neg c20] at H
          exact absurd H (by simp)
        ·rw [if_neg c19] at H
         exact absurd H (by simp)
       ·rw [if_neg c18] at H
        exact absurd H (by simp)
      ·rw [if_neg c17] at H
       have c17b0 : decide (x37_2 < (l0_5.length : Int)) = false := decide_eq_false c17
       clear c17
       simp only [Option.some.injEq, Prod.mk.injEq] at H
       obtain ⟨rfl, rfl⟩ := H
       go_wp2
       go_ret2
       exact ⟨_, by first | rfl | (simp [errW_none, errW_some] <;> rfl) | (simp [*, errW_none, errW_some] <;> rfl), rx_ HO_4, hx_ HB⟩
 ·replace c3 := Bool.eq_false_iff.mpr c3
  subst c3
  have H1 : (some (([] : List (S39)), 1)) = some (r1, r2) := by rw [if_neg (show ¬ (false = true) by decide)] at H; exact H
  clear H
  have H := H1
  clear H1
  simp only [Option.some.injEq, Prod.mk.injEq] at H
  obtain ⟨rfl, rfl⟩ := H
  go_enter Try.func26, Try.ntmps26
  go_wp2_with (first | ((with_reducible refine gate_dst (N := 1) rfl ?_); refine box_event ?hg (N := 1) ?hd (cs := #[.int .u64 a0_0, .int .u64 a0_1, .int .u64 a0_2, .int .u64 a0_3, .string a0_4, .slice A0_5 l0_5.length c0_5]) (t := 30) ?hr ?_; (case hd => rfl); (case hg => rfl); (case hr => first | (go_simp; done) | (go_simp; rfl)); intro gb315 hg w26 hbox hb; have n0_ := am_ (below_step (by repeat (first | (with_reducible first | exact HB.out | apply below_alloc | apply pw_below_drewN | apply below_drew1) | exact HB.out | exact Below.refl _ _)) hb); have n1_ := am_ (hbox); have n2_ := am_ ((by rw [hg]; exact (below_size (hx_ HB)) : w.heap.size ≤ gb315)); have n3_ := am_ ((by rw [hg]; exact (below_size (hx_ HB)) : w.heap.size ≤ gb315)); clear HB; have HB := n0_; have BK315 := n1_; have GW315 := n2_; have GE315 := n3_; clear n0_ n1_ n2_ n3_; clear hb hbox hg; have hcz27_0 : w26.cell? ⟨gb315, 0, none⟩ = some (.int .u64 a0_0) := (blk_cell BK315.out 0).trans rfl; have hcz27_1 : w26.cell? ⟨gb315, 1, none⟩ = some (.int .u64 a0_1) := (blk_cell BK315.out 1).trans rfl; have hcz27_2 : w26.cell? ⟨gb315, 2, none⟩ = some (.int .u64 a0_2) := (blk_cell BK315.out 2).trans rfl; have hcz27_3 : w26.cell? ⟨gb315, 3, none⟩ = some (.int .u64 a0_3) := (blk_cell BK315.out 3).trans rfl; have hcz27_4 : w26.cell? ⟨gb315, 4, none⟩ = some (.string a0_4) := (blk_cell BK315.out 4).trans rfl; have hcz27_5 : w26.cell? ⟨gb315, 5, none⟩ = some (.slice A0_5 l0_5.length c0_5) := (blk_cell BK315.out 5).trans rfl; have hfz27_0 := blk_frozen BK315.out 0; have hfz27_1 := blk_frozen BK315.out 1; have hfz27_2 := blk_frozen BK315.out 2; have hfz27_3 := blk_frozen BK315.out 3; have hfz27_4 := blk_frozen BK315.out 4; have hfz27_5 := blk_frozen BK315.out 5) | ((with_reducible refine gate_callee (f := 29) rfl ?_); refine goesL_ (some 8) rfl rfl Try.func29 (by kernel_rfl) rfl #[.agg #[.int .u64 a0_0, .int .u64 a0_1, .int .u64 a0_2, .int .u64 a0_3, .string a0_4, .slice A0_5 l0_5.length c0_5]] rfl (by (try simp only [List.map_toArray, List.map_cons, List.map_nil]); first | done | rfl | (simp only [List.length_drop, List.length_take]; rfl)) ?_; (with_reducible refine (note_May.calls k a0_0 a0_1 a0_2 a0_3 a0_4 _ _ l0_5 false _ ?side1 ?side2 A2.out).mono ?_); (case side1 => repeat (first | exact (Kd.C_below HR0_5.out HB.out) | (with_reducible refine Kd.C_alloc ?_ _) | (with_reducible refine Kd.C_drewN ?_ _) | (with_reducible refine Kd.C_drew ?_))); (case side2 => exact HC0_5.out); rintro e w28 ⟨rfl, hb⟩; refine ⟨_, rfl, ?_⟩; have n0_ := am_ (blk_below (g := gb315) (o := .cells #[.int .u64 a0_0, .int .u64 a0_1, .int .u64 a0_2, .int .u64 a0_3, .string a0_4, .slice A0_5 l0_5.length c0_5] 30 (0, 0)) (bx_ BK315) hb); have n1_ := am_ (below_step (by repeat (first | (with_reducible first | exact HB.out | apply below_alloc | apply pw_below_drewN | apply below_drew1 | refine below_set ?_ GE315.out) | exact HB.out | exact Below.refl _ _)) hb); clear BK315; clear HB; have BK315 := n0_; have HB := n1_; clear n0_ n1_; (try clear hb); (try clear hb2); (try clear hk); (try clear hi)))
  go_ret2
  exact ⟨_, by first | rfl | (simp [errW_none, errW_some] <;> rfl) | (simp [*, errW_none, errW_some] <;> rfl), by first | exact Kd.R_nil _ _ _ _ _ | exact Kd.N_nil _ _ _ _ _ | exact Kd.V_nil _ _ _ _ _ | exact Kd.Q_nil _ _ _ _ _ | exact Kd.S_nil _ _ _ _ _, hx_ HB⟩
end Go.Proofs.Ytfjhlcbpogihmaa.Pr
