/- What the program's functions compute, and that they compute it: printed out of the translation by a program of this session's (px.py, over the kit's printer). Conditions: none. -/
import Derived.Test.YtfjhlcbpogihmaaGNoteBackPr0
import Derived.Test.YtfjhlcbpogihmaaKNoteBack3
namespace Go.Proofs.Ytfjhlcbpogihmaa.Pr
open Go.RowKit Go.Proofs.YtfjhlcbpogihmaaW.PrintWords Go.Proofs.YtfjhlcbpogihmaaW.PrintLast Go.Proofs.YtfjhlcbpogihmaaW.PrintMore
attribute [local go_sem] max2_int min2_int max_two min_two max_three min_three max_four min_four
set_option linter.unusedVariables false
set_option linter.unusedSimpArgs false
attribute [local go_sem high] eqA75
/-! ### ferruleref04_SameLog: function 41 -/
mutual
def ferruleref04_SameLog.j0 : Nat → Bool → Int → Int → ByteArray → List (S75) → Int → Int → ByteArray → List (S75) → Option (Bool)
  | 0, _, _, _, _, _, _, _, _, _ => none
  | k + 1, x33, x127000, x127001, x127002, x127003, x128000, x128001, x128002, x128003 => if x33 = true then (some false) else (ferruleref04_SameLog.l0 k 0 x127000 x127001 x127002 x127003 x128000 x128001 x128002 x128003)
def ferruleref04_SameLog.l0 : Nat → Int → Int → Int → ByteArray → List (S75) → Int → Int → ByteArray → List (S75) → Option (Bool)
  | 0, _, _, _, _, _, _, _, _, _ => none
  | k + 1, x5, x127000, x127001, x127002, x127003, x128000, x128001, x128002, x128003 => if x5 < (x127003.length : Int) then (if 0 ≤ x5 then (if x5 < (x128003.length : Int) then (if (!(((rd_T75 x127003 x5).f0) == ((rd_T75 x128003 x5).f0)) || (!((((rd_T75 x127003 x5).f1).toList) == (((rd_T75 x128003 x5).f1).toList)))) = true then (some false) else (ferruleref04_SameLog.l0 k (wrap64 (x5 + 1)) x127000 x127001 x127002 x127003 x128000 x128001 x128002 x128003)) else (none)) else (none)) else (some true)
end
def ferruleref04_SameLog.f (k : Nat) (a0_0 : Int) (a0_1 : Int) (a0_2 : ByteArray) (l0_3 : List (S75)) (a1_0 : Int) (a1_1 : Int) (a1_2 : ByteArray) (l1_3 : List (S75)) : Option (Bool) := if a0_0 = a1_0 then (if a0_1 = a1_1 then (if a0_2.toList = a1_2.toList then (ferruleref04_SameLog.j0 k ((l0_3.length : Int) != (l1_3.length : Int)) a0_0 a0_1 a0_2 l0_3 a1_0 a1_1 a1_2 l1_3) else (ferruleref04_SameLog.j0 k true a0_0 a0_1 a0_2 l0_3 a1_0 a1_1 a1_2 l1_3)) else (ferruleref04_SameLog.j0 k true a0_0 a0_1 a0_2 l0_3 a1_0 a1_1 a1_2 l1_3)) else (ferruleref04_SameLog.j0 k true a0_0 a0_1 a0_2 l0_3 a1_0 a1_1 a1_2 l1_3)
namespace Sh7
theorem am_ {p : Prop} (h : p) : Aside0 p := ⟨h⟩
theorem bx_ {Q P : Prop} (b : Aside0 Q) (h : Q → P := by intro hq_; (with_reducible repeat (first | refine blk_drewN ?_ _ | refine blk_drew ?_ | refine blk_alloc ?_ _)); exact hq_) : P := h b.out
theorem hx_ {Q P : Prop} (b : Aside0 Q) (h : Q → P := by intro hq_; repeat (first | (with_reducible first | exact hq_ | apply below_alloc | apply pw_below_drewN | apply below_drew1 | refine below_set ?_ (Aside0.out (by assumption))) | exact hq_)) : P := h b.out
end Sh7
open Sh7
set_option maxHeartbeats 8000000 in
set_option maxRecDepth 100000 in
theorem ferruleref04_SameLog.calls (k : Nat) (a0_0 : Int) (a0_1 : Int) (a0_2 : ByteArray) (A0_3 : Option Addr) (c0_3 : Nat) (l0_3 : List (S75)) (a1_0 : Int) (a1_1 : Int) (a1_2 : ByteArray) (A1_3 : Option Addr) (c1_3 : Nat) (l1_3 : List (S75)) (r : Bool) (w : World) (hr0_3 : Kd.C k75 w A0_3 l0_3.length l0_3) (hc0_3 : l0_3.length ≤ c0_3) (hr1_3 : Kd.C k75 w A1_3 l1_3.length l1_3) (hc1_3 : l1_3.length ≤ c1_3) (h : ferruleref04_SameLog.f k a0_0 a0_1 a0_2 l0_3 a1_0 a1_1 a1_2 l1_3 = some r) :
  Calls Try.prog 41 #[.agg #[.int .u64 a0_0, .int .u64 a0_1, .string a0_2, .slice A0_3 l0_3.length c0_3], .agg #[.int .u64 a1_0, .int .u64 a1_1, .string a1_2, .slice A1_3 l1_3.length c1_3]] w fun e w' => e = .returned (.bool r) ∧ Below w.heap.size w w' := by
 have hu28 := Try.underlying28
 have hu75 := Try.underlying75
 have HR0_3 := am_ hr0_3
 have HC0_3 := am_ hc0_3
 clear hr0_3 hc0_3
 have HR1_3 := am_ hr1_3
 have HC1_3 := am_ hc1_3
 clear hr1_3 hc1_3
 have HB := am_ (Below.refl w.heap.size w)
 have H : (if a0_0 = a1_0 then (if a0_1 = a1_1 then (if a0_2.toList = a1_2.toList then (ferruleref04_SameLog.j0 k ((l0_3.length : Int) != (l1_3.length : Int)) a0_0 a0_1 a0_2 l0_3 a1_0 a1_1 a1_2 l1_3) else (ferruleref04_SameLog.j0 k true a0_0 a0_1 a0_2 l0_3 a1_0 a1_1 a1_2 l1_3)) else (ferruleref04_SameLog.j0 k true a0_0 a0_1 a0_2 l0_3 a1_0 a1_1 a1_2 l1_3)) else (ferruleref04_SameLog.j0 k true a0_0 a0_1 a0_2 l0_3 a1_0 a1_1 a1_2 l1_3)) = some r := h
 clear h
 have HC3 := am_ H
 clear H
 go_enter Try.func41, Try.ntmps41
 go_upto_region 1 with (first | ((with_reducible refine gate_dst (N := 2) rfl ?_); (try (refine gate_guard (by rfl) ?_; dsimp only)); refine box_event ?hg (N := 2) ?hd (cs := #[.int .u64 a0_0, .int .u64 a0_1, .string a0_2, .slice A0_3 l0_3.length c0_3]) (t := 28) ?hr ?_; (case hd => rfl); (case hg => rfl); (case hr => first | (go_simp; done) | (go_simp; rfl)); intro gb126 hg w4 hbox hb; have n0_ := am_ (below_step (by repeat (first | (with_reducible first | exact HB.out | apply below_alloc | apply pw_below_drewN | apply below_drew1) | exact HB.out | exact Below.refl _ _)) hb); have n1_ := am_ (hbox); have n2_ := am_ ((by rw [hg]; exact (below_size (hx_ HB)) : w.heap.size ≤ gb126)); have n3_ := am_ ((by rw [hg]; exact (below_size (hx_ HB)) : w.heap.size ≤ gb126)); clear HB; have HB := n0_; have BK126 := n1_; have GW126 := n2_; have GE126 := n3_; clear n0_ n1_ n2_ n3_; clear hb hbox hg) | ((with_reducible refine gate_dst (N := 3) rfl ?_); (try (refine gate_guard (by rfl) ?_; dsimp only)); refine box_event ?hg (N := 3) ?hd (cs := #[.int .u64 a1_0, .int .u64 a1_1, .string a1_2, .slice A1_3 l1_3.length c1_3]) (t := 28) ?hr ?_; (case hd => rfl); (case hg => rfl); (case hr => first | (go_simp; done) | (go_simp; rfl)); intro gb127 hg w5 hbox hb; have n0_ := am_ (blk_below (g := gb126) (o := .cells #[.int .u64 a0_0, .int .u64 a0_1, .string a0_2, .slice A0_3 l0_3.length c0_3] 28 (0, 0)) (bx_ BK126) hb); have n1_ := am_ (below_step (by repeat (first | (with_reducible first | exact HB.out | apply below_alloc | apply pw_below_drewN | apply below_drew1 | refine below_set ?_ GE126.out) | exact HB.out | exact Below.refl _ _)) hb); have n2_ := am_ (hbox); have n3_ := am_ ((by rw [hg]; exact (below_size (hx_ HB)) : w.heap.size ≤ gb127)); have n4_ := am_ ((by rw [hg]; exact (below_size (hx_ HB)) : w.heap.size ≤ gb127)); have n5_ := am_ ((by rw [hg]; exact Nat.ne_of_lt (blk_lt (g := gb126) (o := .cells #[.int .u64 a0_0, .int .u64 a0_1, .string a0_2, .slice A0_3 l0_3.length c0_3] 28 (0, 0)) (bx_ BK126)) : gb126 ≠ gb127)); have n6_ := am_ ((by rw [hg]; exact Nat.ne_of_gt (blk_lt (g := gb126) (o := .cells #[.int .u64 a0_0, .int .u64 a0_1, .string a0_2, .slice A0_3 l0_3.length c0_3] 28 (0, 0)) (bx_ BK126)) : gb127 ≠ gb126)); clear BK126; clear HB; have BK126 := n0_; have HB := n1_; have BK127 := n2_; have GW127 := n3_; have GE127 := n4_; have NB126_127 := n5_; have NB127_126 := n6_; clear n0_ n1_ n2_ n3_ n4_ n5_ n6_; clear hb hbox hg))
 repeat (go_quiet (first | ((with_reducible refine gate_dst (N := 2) rfl ?_); (try (refine gate_guard (by rfl) ?_; dsimp only)); refine box_event ?hg (N := 2) ?hd (cs := #[.int .u64 a0_0, .int .u64 a0_1, .string a0_2, .slice A0_3 l0_3.length c0_3]) (t := 28) ?hr ?_; (case hd => rfl); (case hg => rfl); (case hr => first | (go_simp; done) | (go_simp; rfl)); intro gb126 hg w4 hbox hb; have n0_ := am_ (below_step (by repeat (first | (with_reducible first | exact HB.out | apply below_alloc | apply pw_below_drewN | apply below_drew1) | exact HB.out | exact Below.refl _ _)) hb); have n1_ := am_ (hbox); have n2_ := am_ ((by rw [hg]; exact (below_size (hx_ HB)) : w.heap.size ≤ gb126)); have n3_ := am_ ((by rw [hg]; exact (below_size (hx_ HB)) : w.heap.size ≤ gb126)); clear HB; have HB := n0_; have BK126 := n1_; have GW126 := n2_; have GE126 := n3_; clear n0_ n1_ n2_ n3_; clear hb hbox hg) | ((with_reducible refine gate_dst (N := 3) rfl ?_); (try (refine gate_guard (by rfl) ?_; dsimp only)); refine box_event ?hg (N := 3) ?hd (cs := #[.int .u64 a1_0, .int .u64 a1_1, .string a1_2, .slice A1_3 l1_3.length c1_3]) (t := 28) ?hr ?_; (case hd => rfl); (case hg => rfl); (case hr => first | (go_simp; done) | (go_simp; rfl)); intro gb127 hg w5 hbox hb; have n0_ := am_ (blk_below (g := gb126) (o := .cells #[.int .u64 a0_0, .int .u64 a0_1, .string a0_2, .slice A0_3 l0_3.length c0_3] 28 (0, 0)) (bx_ BK126) hb); have n1_ := am_ (below_step (by repeat (first | (with_reducible first | exact HB.out | apply below_alloc | apply pw_below_drewN | apply below_drew1 | refine below_set ?_ GE126.out) | exact HB.out | exact Below.refl _ _)) hb); have n2_ := am_ (hbox); have n3_ := am_ ((by rw [hg]; exact (below_size (hx_ HB)) : w.heap.size ≤ gb127)); have n4_ := am_ ((by rw [hg]; exact (below_size (hx_ HB)) : w.heap.size ≤ gb127)); have n5_ := am_ ((by rw [hg]; exact Nat.ne_of_lt (blk_lt (g := gb126) (o := .cells #[.int .u64 a0_0, .int .u64 a0_1, .string a0_2, .slice A0_3 l0_3.length c0_3] 28 (0, 0)) (bx_ BK126)) : gb126 ≠ gb127)); have n6_ := am_ ((by rw [hg]; exact Nat.ne_of_gt (blk_lt (g := gb126) (o := .cells #[.int .u64 a0_0, .int .u64 a0_1, .string a0_2, .slice A0_3 l0_3.length c0_3] 28 (0, 0)) (bx_ BK126)) : gb127 ≠ gb126)); clear BK126; clear HB; have BK126 := n0_; have HB := n1_; have BK127 := n2_; have GW127 := n3_; have GE127 := n4_; have NB126_127 := n5_; have NB127_126 := n6_; clear n0_ n1_ n2_ n3_ n4_ n5_ n6_; clear hb hbox hg)); go_upto_region 1 with (first | ((with_reducible refine gate_dst (N := 2) rfl ?_); (try (refine gate_guard (by rfl) ?_; dsimp only)); refine box_event ?hg (N := 2) ?hd (cs := #[.int .u64 a0_0, .int .u64 a0_1, .string a0_2, .slice A0_3 l0_3.length c0_3]) (t := 28) ?hr ?_; (case hd => rfl); (case hg => rfl); (case hr => first | (go_simp; done) | (go_simp; rfl)); intro gb126 hg w4 hbox hb; have n0_ := am_ (below_step (by repeat (first | (with_reducible first | exact HB.out | apply below_alloc | apply pw_below_drewN | apply below_drew1) | exact HB.out | exact Below.refl _ _)) hb); have n1_ := am_ (hbox); have n2_ := am_ ((by rw [hg]; exact (below_size (hx_ HB)) : w.heap.size ≤ gb126)); have n3_ := am_ ((by rw [hg]; exact (below_size (hx_ HB)) : w.heap.size ≤ gb126)); clear HB; have HB := n0_; have BK126 := n1_; have GW126 := n2_; have GE126 := n3_; clear n0_ n1_ n2_ n3_; clear hb hbox hg) | ((with_reducible refine gate_dst (N := 3) rfl ?_); (try (refine gate_guard (by rfl) ?_; dsimp only)); refine box_event ?hg (N := 3) ?hd (cs := #[.int .u64 a1_0, .int .u64 a1_1, .string a1_2, .slice A1_3 l1_3.length c1_3]) (t := 28) ?hr ?_; (case hd => rfl); (case hg => rfl); (case hr => first | (go_simp; done) | (go_simp; rfl)); intro gb127 hg w5 hbox hb; have n0_ := am_ (blk_below (g := gb126) (o := .cells #[.int .u64 a0_0, .int .u64 a0_1, .string a0_2, .slice A0_3 l0_3.length c0_3] 28 (0, 0)) (bx_ BK126) hb); have n1_ := am_ (below_step (by repeat (first | (with_reducible first | exact HB.out | apply below_alloc | apply pw_below_drewN | apply below_drew1 | refine below_set ?_ GE126.out) | exact HB.out | exact Below.refl _ _)) hb); have n2_ := am_ (hbox); have n3_ := am_ ((by rw [hg]; exact (below_size (hx_ HB)) : w.heap.size ≤ gb127)); have n4_ := am_ ((by rw [hg]; exact (below_size (hx_ HB)) : w.heap.size ≤ gb127)); have n5_ := am_ ((by rw [hg]; exact Nat.ne_of_lt (blk_lt (g := gb126) (o := .cells #[.int .u64 a0_0, .int .u64 a0_1, .string a0_2, .slice A0_3 l0_3.length c0_3] 28 (0, 0)) (bx_ BK126)) : gb126 ≠ gb127)); have n6_ := am_ ((by rw [hg]; exact Nat.ne_of_gt (blk_lt (g := gb126) (o := .cells #[.int .u64 a0_0, .int .u64 a0_1, .string a0_2, .slice A0_3 l0_3.length c0_3] 28 (0, 0)) (bx_ BK126)) : gb127 ≠ gb126)); clear BK126; clear HB; have BK126 := n0_; have HB := n1_; have BK127 := n2_; have GW127 := n3_; have GE127 := n4_; have NB126_127 := n5_; have NB127_126 := n6_; clear n0_ n1_ n2_ n3_ n4_ n5_ n6_; clear hb hbox hg)))
 (try simp only [Act.put, List.setIfInBounds_toArray, List.set_cons_zero, List.set_cons_succ])
 go_cut [33] (fun v33 wc => ∃ (kq : Nat) (x33_2 : Bool), v33 = .bool x33_2 ∧ Aside0 (ferruleref04_SameLog.j0 kq x33_2 a0_0 a0_1 a0_2 l0_3 a1_0 a1_1 a1_2 l1_3 = some r) ∧ Aside0 (kq ≤ k) ∧ Aside0 (wc.heap[gb126]? = some (.cells #[.int .u64 a0_0, .int .u64 a0_1, .string a0_2, (.slice A0_3 l0_3.length c0_3)] 28 (0, 0))) ∧ Aside0 (wc.heap[gb127]? = some (.cells #[.int .u64 a1_0, .int .u64 a1_1, .string a1_2, (.slice A1_3 l1_3.length c1_3)] 28 (0, 0))) ∧ Aside0 (Below w.heap.size w wc))
 case first =>
  have H := HC3.out
  clear HC3
  by_cases c6 : a0_0 = a1_0
  ·rw [if_pos c6] at H
   have c6b0 : (a0_0 == a1_0) = true := beq_iff_eq.mpr c6
   have c6b1 : (a0_0 != a1_0) = false := bne_eq_false_iff_eq.mpr c6
   clear c6
   (first | rw [c6b0] | (simp only [i64_w, i32_w]; rw [c6b0]) | skip)
   by_cases c7 : a0_1 = a1_1
   ·rw [if_pos c7] at H
    have c7b0 : (a0_1 == a1_1) = true := beq_iff_eq.mpr c7
    have c7b1 : (a0_1 != a1_1) = false := bne_eq_false_iff_eq.mpr c7
    clear c7
    by_cases c8 : a0_2.toList = a1_2.toList
    ·rw [if_pos c8] at H
     have c8b0 : (a0_2.toList == a1_2.toList) = true := beq_iff_eq.mpr c8
     have c8b1 : (a0_2.toList != a1_2.toList) = false := bne_eq_false_iff_eq.mpr c8
     clear c8
     have H' := am_ H
     clear H
     have hnb9 := NB126_127.out
     have hnc9 := NB127_126.out
     have hcz10_0 : w5.cell? ⟨gb126, 0, none⟩ = some (.int .u64 a0_0) := (blk_cell BK126.out 0).trans rfl
     have hcz10_1 : w5.cell? ⟨gb126, 1, none⟩ = some (.int .u64 a0_1) := (blk_cell BK126.out 1).trans rfl
     have hcz10_2 : w5.cell? ⟨gb126, 2, none⟩ = some (.string a0_2) := (blk_cell BK126.out 2).trans rfl
     have hcz10_3 : w5.cell? ⟨gb126, 3, none⟩ = some (.slice A0_3 l0_3.length c0_3) := (blk_cell BK126.out 3).trans rfl
     have hfz10_0 := blk_frozen BK126.out 0
     have hfz10_1 := blk_frozen BK126.out 1
     have hfz10_2 := blk_frozen BK126.out 2
     have hfz10_3 := blk_frozen BK126.out 3
     have hcz11_0 : w5.cell? ⟨gb127, 0, none⟩ = some (.int .u64 a1_0) := (blk_cell BK127.out 0).trans rfl
     have hcz11_1 : w5.cell? ⟨gb127, 1, none⟩ = some (.int .u64 a1_1) := (blk_cell BK127.out 1).trans rfl
     have hcz11_2 : w5.cell? ⟨gb127, 2, none⟩ = some (.string a1_2) := (blk_cell BK127.out 2).trans rfl
     have hcz11_3 : w5.cell? ⟨gb127, 3, none⟩ = some (.slice A1_3 l1_3.length c1_3) := (blk_cell BK127.out 3).trans rfl
     have hfz11_0 := blk_frozen BK127.out 0
     have hfz11_1 := blk_frozen BK127.out 1
     have hfz11_2 := blk_frozen BK127.out 2
     have hfz11_3 := blk_frozen BK127.out 3
     go_wp2
     repeat (go_quiet (fail); try go_wp2)
     go_meet
     case rel => exact ⟨_, (((l0_3.length : Int) != (l1_3.length : Int))), (by first | rfl | (simp; done) | (simp [*]; done)), H', ⟨by first | omega | exact Nat.le_refl _⟩, ⟨bx_ BK126⟩, ⟨bx_ BK127⟩, ⟨hx_ HB⟩⟩
    ·rw [if_neg c8] at H
     have c8b0 : (a0_2.toList == a1_2.toList) = false := beq_eq_false_iff_ne.mpr c8
     have c8b1 : (a0_2.toList != a1_2.toList) = true := bne_iff_ne.mpr c8
     have H' := am_ H
     clear H
     have hnb12 := NB126_127.out
     have hnc12 := NB127_126.out
     have hcz13_0 : w5.cell? ⟨gb126, 0, none⟩ = some (.int .u64 a0_0) := (blk_cell BK126.out 0).trans rfl
     have hcz13_1 : w5.cell? ⟨gb126, 1, none⟩ = some (.int .u64 a0_1) := (blk_cell BK126.out 1).trans rfl
     have hcz13_2 : w5.cell? ⟨gb126, 2, none⟩ = some (.string a0_2) := (blk_cell BK126.out 2).trans rfl
     have hcz13_3 : w5.cell? ⟨gb126, 3, none⟩ = some (.slice A0_3 l0_3.length c0_3) := (blk_cell BK126.out 3).trans rfl
     have hfz13_0 := blk_frozen BK126.out 0
     have hfz13_1 := blk_frozen BK126.out 1
     have hfz13_2 := blk_frozen BK126.out 2
     have hfz13_3 := blk_frozen BK126.out 3
     have hcz14_0 : w5.cell? ⟨gb127, 0, none⟩ = some (.int .u64 a1_0) := (blk_cell BK127.out 0).trans rfl
     have hcz14_1 : w5.cell? ⟨gb127, 1, none⟩ = some (.int .u64 a1_1) := (blk_cell BK127.out 1).trans rfl
     have hcz14_2 : w5.cell? ⟨gb127, 2, none⟩ = some (.string a1_2) := (blk_cell BK127.out 2).trans rfl
     have hcz14_3 : w5.cell? ⟨gb127, 3, none⟩ = some (.slice A1_3 l1_3.length c1_3) := (blk_cell BK127.out 3).trans rfl
     have hfz14_0 := blk_frozen BK127.out 0
     have hfz14_1 := blk_frozen BK127.out 1
     have hfz14_2 := blk_frozen BK127.out 2
     have hfz14_3 := blk_frozen BK127.out 3
     go_wp2
     repeat (go_quiet (fail); try go_wp2)
     go_meet
     case rel => exact ⟨_, (true), (by first | rfl | (simp; done) | (simp [*]; done)), H', ⟨by first | omega | exact Nat.le_refl _⟩, ⟨bx_ BK126⟩, ⟨bx_ BK127⟩, ⟨hx_ HB⟩⟩
   ·rw [if_neg c7] at H
    have c7b0 : (a0_1 == a1_1) = false := beq_eq_false_iff_ne.mpr c7
    have c7b1 : (a0_1 != a1_1) = true := bne_iff_ne.mpr c7
    have H' := am_ H
    clear H
    have hnb15 := NB126_127.out
    have hnc15 := NB127_126.out
    have hcz16_0 : w5.cell? ⟨gb126, 0, none⟩ = some (.int .u64 a0_0) := (blk_cell BK126.out 0).trans rfl
    have hcz16_1 : w5.cell? ⟨gb126, 1, none⟩ = some (.int .u64 a0_1) := (blk_cell BK126.out 1).trans rfl
    have hcz16_2 : w5.cell? ⟨gb126, 2, none⟩ = some (.string a0_2) := (blk_cell BK126.out 2).trans rfl
    have hcz16_3 : w5.cell? ⟨gb126, 3, none⟩ = some (.slice A0_3 l0_3.length c0_3) := (blk_cell BK126.out 3).trans rfl
    have hfz16_0 := blk_frozen BK126.out 0
    have hfz16_1 := blk_frozen BK126.out 1
    have hfz16_2 := blk_frozen BK126.out 2
    have hfz16_3 := blk_frozen BK126.out 3
    have hcz17_0 : w5.cell? ⟨gb127, 0, none⟩ = some (.int .u64 a1_0) := (blk_cell BK127.out 0).trans rfl
    have hcz17_1 : w5.cell? ⟨gb127, 1, none⟩ = some (.int .u64 a1_1) := (blk_cell BK127.out 1).trans rfl
    have hcz17_2 : w5.cell? ⟨gb127, 2, none⟩ = some (.string a1_2) := (blk_cell BK127.out 2).trans rfl
    have hcz17_3 : w5.cell? ⟨gb127, 3, none⟩ = some (.slice A1_3 l1_3.length c1_3) := (blk_cell BK127.out 3).trans rfl
    have hfz17_0 := blk_frozen BK127.out 0
    have hfz17_1 := blk_frozen BK127.out 1
    have hfz17_2 := blk_frozen BK127.out 2
    have hfz17_3 := blk_frozen BK127.out 3
    go_wp2
    repeat (go_quiet (fail); try go_wp2)
    go_meet
    case rel => exact ⟨_, (true), (by first | rfl | (simp; done) | (simp [*]; done)), H', ⟨by first | omega | exact Nat.le_refl _⟩, ⟨bx_ BK126⟩, ⟨bx_ BK127⟩, ⟨hx_ HB⟩⟩
  ·rw [if_neg c6] at H
   have c6b0 : (a0_0 == a1_0) = false := beq_eq_false_iff_ne.mpr c6
   have c6b1 : (a0_0 != a1_0) = true := bne_iff_ne.mpr c6
   (first | rw [c6b0] | (simp only [i64_w, i32_w]; rw [c6b0]) | skip)
   have H' := am_ H
   clear H
   have hnb18 := NB126_127.out
   have hnc18 := NB127_126.out
   have hcz19_0 : w5.cell? ⟨gb126, 0, none⟩ = some (.int .u64 a0_0) := (blk_cell BK126.out 0).trans rfl
   have hcz19_1 : w5.cell? ⟨gb126, 1, none⟩ = some (.int .u64 a0_1) := (blk_cell BK126.out 1).trans rfl
   have hcz19_2 : w5.cell? ⟨gb126, 2, none⟩ = some (.string a0_2) := (blk_cell BK126.out 2).trans rfl
   have hcz19_3 : w5.cell? ⟨gb126, 3, none⟩ = some (.slice A0_3 l0_3.length c0_3) := (blk_cell BK126.out 3).trans rfl
   have hfz19_0 := blk_frozen BK126.out 0
   have hfz19_1 := blk_frozen BK126.out 1
   have hfz19_2 := blk_frozen BK126.out 2
   have hfz19_3 := blk_frozen BK126.out 3
   have hcz20_0 : w5.cell? ⟨gb127, 0, none⟩ = some (.int .u64 a1_0) := (blk_cell BK127.out 0).trans rfl
   have hcz20_1 : w5.cell? ⟨gb127, 1, none⟩ = some (.int .u64 a1_1) := (blk_cell BK127.out 1).trans rfl
   have hcz20_2 : w5.cell? ⟨gb127, 2, none⟩ = some (.string a1_2) := (blk_cell BK127.out 2).trans rfl
   have hcz20_3 : w5.cell? ⟨gb127, 3, none⟩ = some (.slice A1_3 l1_3.length c1_3) := (blk_cell BK127.out 3).trans rfl
   have hfz20_0 := blk_frozen BK127.out 0
   have hfz20_1 := blk_frozen BK127.out 1
   have hfz20_2 := blk_frozen BK127.out 2
   have hfz20_3 := blk_frozen BK127.out 3
   go_wp2
   repeat (go_quiet (fail); try go_wp2)
   go_meet
   case rel => exact ⟨_, (true), (by first | rfl | (simp; done) | (simp [*]; done)), H', ⟨by first | omega | exact Nat.le_refl _⟩, ⟨bx_ BK126⟩, ⟨bx_ BK127⟩, ⟨hx_ HB⟩⟩
 case rest =>
  clear HC3
  try clear c1
  try clear p2
  try clear c4
  try clear c6
  try clear c6b0
  try clear c6b1
  try clear c7
  try clear c7b0
  try clear c7b1
  try clear c8
  try clear c8b0
  try clear c8b1
  try clear c9
  try clear c12
  try clear c15
  try clear c18
  try clear hcz10_0
  try clear hcz10_1
  try clear hcz10_2
  try clear hcz10_3
  try clear hcz11_0
  try clear hcz11_1
  try clear hcz11_2
  try clear hcz11_3
  try clear hcz13_0
  try clear hcz13_1
  try clear hcz13_2
  try clear hcz13_3
  try clear hcz14_0
  try clear hcz14_1
  try clear hcz14_2
  try clear hcz14_3
  try clear hcz16_0
  try clear hcz16_1
  try clear hcz16_2
  try clear hcz16_3
  try clear hcz17_0
  try clear hcz17_1
  try clear hcz17_2
  try clear hcz17_3
  try clear hcz19_0
  try clear hcz19_1
  try clear hcz19_2
  try clear hcz19_3
  try clear hcz20_0
  try clear hcz20_1
  try clear hcz20_2
  try clear hcz20_3
  try clear hfz10_0
  try clear hfz10_1
  try clear hfz10_2
  try clear hfz10_3
  try clear hfz11_0
  try clear hfz11_1
  try clear hfz11_2
  try clear hfz11_3
  try clear hfz13_0
  try clear hfz13_1
  try clear hfz13_2
  try clear hfz13_3
  try clear hfz14_0
  try clear hfz14_1
  try clear hfz14_2
  try clear hfz14_3
  try clear hfz16_0
  try clear hfz16_1
  try clear hfz16_2
  try clear hfz16_3
  try clear hfz17_0
  try clear hfz17_1
  try clear hfz17_2
  try clear hfz17_3
  try clear hfz19_0
  try clear hfz19_1
  try clear hfz19_2
  try clear hfz19_3
  try clear hfz20_0
  try clear hfz20_1
  try clear hfz20_2
  try clear hfz20_3
  obtain ⟨kq, x33_2, rfl, HA, HJ2, BK126, BK127, HB⟩ := hcut
  cases kq with
  | zero => exact absurd HA.out (by simp [ferruleref04_SameLog.j0])
  | succ kj2 =>
   have H := HA.out
   clear HA
   simp only [ferruleref04_SameLog.j0] at H
   by_cases c21 : x33_2 = true
   ·subst c21
    have H1 : (some false) = some r := by rw [if_pos rfl] at H; exact H
    clear H
    have H := H1
    clear H1
    obtain rfl := Option.some.inj H
    go_wp2
    repeat (go_quiet (fail); try go_wp2)
    go_ret
    exact ⟨by first | rfl | (simp [errW_none, errW_some] <;> rfl) | (simp [*, errW_none, errW_some] <;> rfl), hx_ HB⟩
   ·replace c21 := Bool.eq_false_iff.mpr c21
    subst c21
    have H1 : (ferruleref04_SameLog.l0 kj2 0 a0_0 a0_1 a0_2 l0_3 a1_0 a1_1 a1_2 l1_3) = some r := by rw [if_neg (show ¬ (false = true) by decide)] at H; exact H
    clear H
    have H := H1
    clear H1
    have H' := am_ H
    clear H
    go_wp2
    repeat (go_quiet (fail); try go_wp2)
    go_loopg [5] kj2 (fun kq v5 w' => ∃ (x5_2 : Int), v5 = .int .i64 x5_2 ∧ Aside0 (ferruleref04_SameLog.l0 kq x5_2 a0_0 a0_1 a0_2 l0_3 a1_0 a1_1 a1_2 l1_3 = some r) ∧ Aside0 (kq ≤ kj2) ∧ Aside0 (w'.heap[gb126]? = some (.cells #[.int .u64 a0_0, .int .u64 a0_1, .string a0_2, (.slice A0_3 l0_3.length c0_3)] 28 (0, 0))) ∧ Aside0 (w'.heap[gb127]? = some (.cells #[.int .u64 a1_0, .int .u64 a1_1, .string a1_2, (.slice A1_3 l1_3.length c1_3)] 28 (0, 0))) ∧ Aside0 (Below w.heap.size w w'))
    case atStart => exact ⟨(0), (by first | rfl | (simp; done) | (simp [*]; done)), H', ⟨Nat.le_refl _⟩, ⟨bx_ BK126⟩, ⟨bx_ BK127⟩, ⟨hx_ HB⟩⟩
    case round =>
     clear H'
     try clear c1
     try clear c2
     try clear p2
     try clear c4
     try clear c6
     try clear c6b0
     try clear c6b1
     try clear c7
     try clear c7b0
     try clear c7b1
     try clear c8
     try clear c8b0
     try clear c8b1
     try clear c9
     try clear c12
     try clear c15
     try clear c18
     try clear c21
     try clear hcz10_0
     try clear hcz10_1
     try clear hcz10_2
     try clear hcz10_3
     try clear hcz11_0
     try clear hcz11_1
     try clear hcz11_2
     try clear hcz11_3
     try clear hcz13_0
     try clear hcz13_1
     try clear hcz13_2
     try clear hcz13_3
     try clear hcz14_0
     try clear hcz14_1
     try clear hcz14_2
     try clear hcz14_3
     try clear hcz16_0
     try clear hcz16_1
     try clear hcz16_2
     try clear hcz16_3
     try clear hcz17_0
     try clear hcz17_1
     try clear hcz17_2
     try clear hcz17_3
     try clear hcz19_0
     try clear hcz19_1
     try clear hcz19_2
     try clear hcz19_3
     try clear hcz20_0
     try clear hcz20_1
     try clear hcz20_2
     try clear hcz20_3
     try clear hfz10_0
     try clear hfz10_1
     try clear hfz10_2
     try clear hfz10_3
     try clear hfz11_0
     try clear hfz11_1
     try clear hfz11_2
     try clear hfz11_3
     try clear hfz13_0
     try clear hfz13_1
     try clear hfz13_2
     try clear hfz13_3
     try clear hfz14_0
     try clear hfz14_1
     try clear hfz14_2
     try clear hfz14_3
     try clear hfz16_0
     try clear hfz16_1
     try clear hfz16_2
     try clear hfz16_3
     try clear hfz17_0
     try clear hfz17_1
     try clear hfz17_2
     try clear hfz17_3
     try clear hfz19_0
     try clear hfz19_1
     try clear hfz19_2
     try clear hfz19_3
     try clear hfz20_0
     try clear hfz20_1
     try clear hfz20_2
     try clear hfz20_3
     try clear p2
     obtain ⟨x5_2, rfl, HA, HK2, BK126, BK127, HB⟩ := hrel
     cases gk with
     | zero => exact absurd HA.out (by simp [ferruleref04_SameLog.l0])
     | succ k2 =>
      have H := HA.out
      clear HA
      simp only [ferruleref04_SameLog.l0] at H
      by_cases c22 : x5_2 < (l0_3.length : Int)
      ·rw [if_pos c22] at H
       have c22b0 : decide (x5_2 < (l0_3.length : Int)) = true := decide_eq_true c22
       clear c22
       by_cases c23 : 0 ≤ x5_2
       ·rw [if_pos c23] at H
        have c23b0 : decide (0 ≤ x5_2) = true := decide_eq_true c23
        clear c23
        by_cases c24 : x5_2 < (l1_3.length : Int)
        ·rw [if_pos c24] at H
         have c24b0 : decide (x5_2 < (l1_3.length : Int)) = true := decide_eq_true c24
         clear c24
         by_cases c25 : (!(((rd_T75 l0_3 x5_2).f0) == ((rd_T75 l1_3 x5_2).f0)) || (!((((rd_T75 l0_3 x5_2).f1).toList) == (((rd_T75 l1_3 x5_2).f1).toList)))) = true
         ·rw [if_pos c25] at H
          have c25b0 : (!(((rd_T75 l0_3 x5_2).f0) == ((rd_T75 l1_3 x5_2).f0)) || (!((((rd_T75 l0_3 x5_2).f1).toList) == (((rd_T75 l1_3 x5_2).f1).toList)))) = true := c25
          clear c25
          obtain rfl := Option.some.inj H
          have hnb26 := NB126_127.out
          have hnc26 := NB127_126.out
          have hcz27_0 : wr.cell? ⟨gb126, 0, none⟩ = some (.int .u64 a0_0) := (blk_cell BK126.out 0).trans rfl
          have hcz27_1 : wr.cell? ⟨gb126, 1, none⟩ = some (.int .u64 a0_1) := (blk_cell BK126.out 1).trans rfl
          have hcz27_2 : wr.cell? ⟨gb126, 2, none⟩ = some (.string a0_2) := (blk_cell BK126.out 2).trans rfl
          have hcz27_3 : wr.cell? ⟨gb126, 3, none⟩ = some (.slice A0_3 l0_3.length c0_3) := (blk_cell BK126.out 3).trans rfl
          have hfz27_0 := blk_frozen BK126.out 0
          have hfz27_1 := blk_frozen BK126.out 1
          have hfz27_2 := blk_frozen BK126.out 2
          have hfz27_3 := blk_frozen BK126.out 3
          have p128 : 0 ≤ (x5_2 : Int) := of_decide_eq_true (by first | (with_reducible assumption) | assumption)
          have q128 : x5_2 < (l0_3.length : Int) := of_decide_eq_true (by first | (with_reducible assumption) | assumption)
          obtain ⟨ad128, e128, hx128_0, hx128_1⟩ := at_T75 HR0_3.out x5_2 p128 q128
          cases e128
          replace hx128_0 := (HB.out.cell (World.block_lt_of_cell? w _ hx128_0)).trans hx128_0
          replace hx128_1 := (HB.out.cell (World.block_lt_of_cell? w _ hx128_1)).trans hx128_1
          replace p128 := eq_true p128
          replace q128 := eq_true q128
          have hcz28_0 : wr.cell? ⟨gb127, 0, none⟩ = some (.int .u64 a1_0) := (blk_cell BK127.out 0).trans rfl
          have hcz28_1 : wr.cell? ⟨gb127, 1, none⟩ = some (.int .u64 a1_1) := (blk_cell BK127.out 1).trans rfl
          have hcz28_2 : wr.cell? ⟨gb127, 2, none⟩ = some (.string a1_2) := (blk_cell BK127.out 2).trans rfl
          have hcz28_3 : wr.cell? ⟨gb127, 3, none⟩ = some (.slice A1_3 l1_3.length c1_3) := (blk_cell BK127.out 3).trans rfl
          have hfz28_0 := blk_frozen BK127.out 0
          have hfz28_1 := blk_frozen BK127.out 1
          have hfz28_2 := blk_frozen BK127.out 2
          have hfz28_3 := blk_frozen BK127.out 3
          have p129 : 0 ≤ (x5_2 : Int) := of_decide_eq_true (by first | (with_reducible assumption) | assumption)
          have q129 : x5_2 < (l1_3.length : Int) := of_decide_eq_true (by first | (with_reducible assumption) | assumption)
          obtain ⟨ad129, e129, hx129_0, hx129_1⟩ := at_T75 HR1_3.out x5_2 p129 q129
          cases e129
          replace hx129_0 := (HB.out.cell (World.block_lt_of_cell? w _ hx129_0)).trans hx129_0
          replace hx129_1 := (HB.out.cell (World.block_lt_of_cell? w _ hx129_1)).trans hx129_1
          replace p129 := eq_true p129
          replace q129 := eq_true q129
          go_wp2
          repeat (go_quiet (fail); try go_wp2)
          go_ret
          exact ⟨by first | rfl | (simp [errW_none, errW_some] <;> rfl) | (simp [*, errW_none, errW_some] <;> rfl), hx_ HB⟩
         ·rw [if_neg c25] at H
          have c25b0 : (!(((rd_T75 l0_3 x5_2).f0) == ((rd_T75 l1_3 x5_2).f0)) || (!((((rd_T75 l0_3 x5_2).f1).toList) == (((rd_T75 l1_3 x5_2).f1).toList)))) = false := by simpa using c25
          clear c25
          have H' := am_ H
          clear H
          have hnb29 := NB126_127.out
          have hnc29 := NB127_126.out
          have hcz30_0 : wr.cell? ⟨gb126, 0, none⟩ = some (.int .u64 a0_0) := (blk_cell BK126.out 0).trans rfl
          have hcz30_1 : wr.cell? ⟨gb126, 1, none⟩ = some (.int .u64 a0_1) := (blk_cell BK126.out 1).trans rfl
          have hcz30_2 : wr.cell? ⟨gb126, 2, none⟩ = some (.string a0_2) := (blk_cell BK126.out 2).trans rfl
          have hcz30_3 : wr.cell? ⟨gb126, 3, none⟩ = some (.slice A0_3 l0_3.length c0_3) := (blk_cell BK126.out 3).trans rfl
          have hfz30_0 := blk_frozen BK126.out 0
          have hfz30_1 := blk_frozen BK126.out 1
          have hfz30_2 := blk_frozen BK126.out 2
          have hfz30_3 := blk_frozen BK126.out 3
          have p128 : 0 ≤ (x5_2 : Int) := of_decide_eq_true (by first | (with_reducible assumption) | assumption)
          have q128 : x5_2 < (l0_3.length : Int) := of_decide_eq_true (by first | (with_reducible assumption) | assumption)
          obtain ⟨ad128, e128, hx128_0, hx128_1⟩ := at_T75 HR0_3.out x5_2 p128 q128
          cases e128
          replace hx128_0 := (HB.out.cell (World.block_lt_of_cell? w _ hx128_0)).trans hx128_0
          replace hx128_1 := (HB.out.cell (World.block_lt_of_cell? w _ hx128_1)).trans hx128_1
          replace p128 := eq_true p128
          replace q128 := eq_true q128
          have hcz31_0 : wr.cell? ⟨gb127, 0, none⟩ = some (.int .u64 a1_0) := (blk_cell BK127.out 0).trans rfl
          have hcz31_1 : wr.cell? ⟨gb127, 1, none⟩ = some (.int .u64 a1_1) := (blk_cell BK127.out 1).trans rfl
          have hcz31_2 : wr.cell? ⟨gb127, 2, none⟩ = some (.string a1_2) := (blk_cell BK127.out 2).trans rfl
          have hcz31_3 : wr.cell? ⟨gb127, 3, none⟩ = some (.slice A1_3 l1_3.length c1_3) := (blk_cell BK127.out 3).trans rfl
          have hfz31_0 := blk_frozen BK127.out 0
          have hfz31_1 := blk_frozen BK127.out 1
          have hfz31_2 := blk_frozen BK127.out 2
          have hfz31_3 := blk_frozen BK127.out 3
          have p129 : 0 ≤ (x5_2 : Int) := of_decide_eq_true (by first | (with_reducible assumption) | assumption)
          have q129 : x5_2 < (l1_3.length : Int) := of_decide_eq_true (by first | (with_reducible assumption) | assumption)
          obtain ⟨ad129, e129, hx129_0, hx129_1⟩ := at_T75 HR1_3.out x5_2 p129 q129
          cases e129
          replace hx129_0 := (HB.out.cell (World.block_lt_of_cell? w _ hx129_0)).trans hx129_0
          replace hx129_1 := (HB.out.cell (World.block_lt_of_cell? w _ hx129_1)).trans hx129_1
          replace p129 := eq_true p129
          replace q129 := eq_true q129
          go_wp2
          repeat (go_quiet (fail); try go_wp2)
          go_roundg k2
          case measure => have := HJ2.out; have := HK2.out; omega
          case rel => exact ⟨(wrap64 (x5_2 + 1)), (by first | rfl | (simp; done) | (simp [*]; done)), H', ⟨by have := HJ2.out; have := HK2.out; omega⟩, ⟨bx_ BK126⟩, ⟨bx_ BK127⟩, ⟨hx_ HB⟩⟩
        ·rw [if_neg c24] at H
         exact absurd H (by simp)
       ·rw [if_neg c23] at H
        exact absurd H (by simp)
      ·rw [if_neg c22] at H
       have c22b0 : decide (x5_2 < (l0_3.length : Int)) = false := decide_eq_false c22
       clear c22
       obtain rfl := Option.some.inj H
       have hnb32 := NB126_127.out
       have hnc32 := NB127_126.out
       have hcz33_0 : wr.cell? ⟨gb126, 0, none⟩ = some (.int .u64 a0_0) := (blk_cell BK126.out 0).trans rfl
       have hcz33_1 : wr.cell? ⟨gb126, 1, none⟩ = some (.int .u64 a0_1) := (blk_cell BK126.out 1).trans rfl
       have hcz33_2 : wr.cell? ⟨gb126, 2, none⟩ = some (.string a0_2) := (blk_cell BK126.out 2).trans rfl
       have hcz33_3 : wr.cell? ⟨gb126, 3, none⟩ = some (.slice A0_3 l0_3.length c0_3) := (blk_cell BK126.out 3).trans rfl
       have hfz33_0 := blk_frozen BK126.out 0
       have hfz33_1 := blk_frozen BK126.out 1
       have hfz33_2 := blk_frozen BK126.out 2
       have hfz33_3 := blk_frozen BK126.out 3
       go_wp2
       repeat (go_quiet (fail); try go_wp2)
       go_ret
       exact ⟨by first | rfl | (simp [errW_none, errW_some] <;> rfl) | (simp [*, errW_none, errW_some] <;> rfl), hx_ HB⟩
end Go.Proofs.Ytfjhlcbpogihmaa.Pr
