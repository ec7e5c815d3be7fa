/- What the program's functions compute, and that they compute it: printed out of the translation by a program of this session's (px.py, over the kit's printer). Conditions: none. -/
import Derived.Test.YtfjhlcbpogihmaaKNoteLasts2
import Derived.Test.YtfjhlcbpogihmaaGNoteLastsPr8
import Derived.Test.YtfjhlcbpogihmaaGNoteLastsRStepB
namespace Go.Proofs.Ytfjhlcbpogihmaa.Pr
open Go.RowKit Go.Proofs.YtfjhlcbpogihmaaW.PrintWords Go.Proofs.YtfjhlcbpogihmaaW.PrintLast Go.Proofs.YtfjhlcbpogihmaaW.PrintMore
attribute [local go_sem] max2_int min2_int max_two min_two max_three min_three max_four min_four
set_option linter.unusedVariables false
set_option linter.unusedSimpArgs false
namespace ShRStepC
theorem am_ {p : Prop} (h : p) : Aside0 p := ⟨h⟩
theorem bx_ {Q P : Prop} (b : Aside0 Q) (h : Q → P := by intro hq_; (with_reducible repeat (first | refine blk_drewN ?_ _ | refine blk_drew ?_ | refine blk_alloc ?_ _)); exact hq_) : P := h b.out
theorem hx_ {Q P : Prop} (b : Aside0 Q) (h : Q → P := by intro hq_; repeat (first | (with_reducible first | exact hq_ | apply below_alloc | apply pw_below_drewN | apply below_drew1 | refine below_set ?_ (Aside0.out (by assumption))) | exact hq_)) : P := h b.out
theorem rx_ {Q P : Prop} (b : Aside0 Q) (h : Q → P := by intro hq_; (with_reducible repeat (first | apply Kd.R_alloc | apply Kd.R_drewN | apply Kd.R_drew)); exact hq_) : P := h b.out
abbrev bN0_ : Array Bool := #[false, false, false, false, false, false, false, false, false, false, false, false, false, false, false]
abbrev bN1_ : Array Bool := #[true, false, false, false, false, false, false, false, false, false, false, false, false, false, false]
abbrev bN2_ : Array Bool := #[true, true, false, false, false, false, false, false, false, false, false, false, false, false, false]
abbrev bN3_ : Array Bool := #[true, true, true, false, false, false, false, false, false, false, false, false, false, false, false]
abbrev bN4_ : Array Bool := #[true, true, true, true, false, false, false, false, false, false, false, false, false, false, false]
abbrev bN5_ : Array Bool := #[true, true, true, true, true, false, false, false, false, false, false, false, false, false, false]
abbrev bN6_ : Array Bool := #[true, true, true, true, true, true, false, false, false, false, false, false, false, false, false]
abbrev bN7_ : Array Bool := #[true, true, true, true, true, true, false, true, false, false, false, false, false, false, false]
abbrev bN8_ : Array Bool := #[true, true, true, true, true, true, false, true, false, false, false, true, false, false, false]
abbrev bN9_ : Array Bool := #[true, true, true, true, true, true, true, true, false, false, false, true, false, false, false]
abbrev bN10_ : Array Bool := #[true, true, true, true, true, true, true, true, true, false, false, true, false, false, false]
abbrev bN11_ : Array Bool := #[true, true, true, true, true, true, true, true, true, true, false, true, false, false, false]
abbrev bN12_ : Array Bool := #[true, true, true, true, true, true, true, true, true, true, true, true, false, false, false]
abbrev bN13_ : Array Bool := #[true, true, true, true, true, true, true, true, true, true, true, true, true, false, false]
abbrev bN14_ : Array Bool := #[true, true, true, true, true, true, true, true, true, true, true, true, true, true, false]
abbrev bN15_ : Array Bool := #[true, true, true, true, true, true, true, true, true, true, true, true, true, true, true]
abbrev bN16_ : Array Bool := #[true, true, true, true, true, true, true, false, false, false, false, false, false, false, false]
abbrev bN17_ : Array Bool := #[true, true, true, true, true, true, true, true, false, false, false, false, false, false, false]
abbrev bN18_ : Array Bool := #[true, true, true, true, true, true, true, true, true, false, false, false, false, false, false]
abbrev bN19_ : Array Bool := #[true, true, true, true, true, true, true, true, true, true, false, false, false, false, false]
abbrev bN20_ : Array Bool := #[true, true, true, true, true, true, true, true, true, true, true, false, false, false, false]
theorem kx_ {Q P : Prop} (b : Aside0 Q) (h : Q → P := by intro hq_; repeat (first | (with_reducible first | exact hq_ | apply Kept.alloc | apply Kept.drewN | apply Kept.drew | refine Kept.setCell ?_ (.inr (Aside0.out (by assumption))) _) | exact hq_)) : P := h b.out
theorem hy_ {Q P : Prop} (b : Aside0 Q) (h : Q → P := by intro hq_; repeat (first | (with_reducible first | exact hq_ | apply below_alloc | apply pw_below_drewN | apply below_drew1 | refine below_set ?_ (Aside0.out (by assumption))) | exact hq_ | exact Below.refl _ _)) : P := h b.out
theorem bb_ {w w1 w2 : World} {g : Nat} {o : Obj} (b : Aside0 (w.heap[g]? = some o)) (hb : Below w1.heap.size w1 w2) (h : w.heap[g]? = some o → w1.heap[g]? = some o := by intro hq_; (with_reducible repeat (first | refine blk_drewN ?_ _ | refine blk_drew ?_ | refine blk_alloc ?_ _)); exact hq_) : w2.heap[g]? = some o := blk_below (h b.out) hb
theorem bl_ {w w1 : World} {g : Nat} {o : Obj} (b : Aside0 (w.heap[g]? = some o)) (h : w.heap[g]? = some o → w1.heap[g]? = some o := by intro hq_; (with_reducible repeat (first | refine blk_drewN ?_ _ | refine blk_drew ?_ | refine blk_alloc ?_ _)); exact hq_) : g < w1.heap.size := blk_lt (h b.out)
end ShRStepC
open ShRStepC
set_option maxHeartbeats 8000000 in
set_option maxRecDepth 100000 in
theorem ferruleref04_Step.calls_c (k : Nat) (a0_0 : Int) (a0_1 : Int) (a0_2 : Int) (a0_3 : Int) (a0_4 : ByteArray) (P0_5_ : Nat → Prop) (u9000_ : Value) (l0_5 : List (S75)) (a1_0 : Int) (a1_1 : Int) (a1_2 : Int) (a1_3 : Int) (a1_4 : ByteArray) (r1 : Int) (r2 : Int) (r3 : Int) (r4 : Int) (r5 : ByteArray) (r6 : List (S75)) (w0 w : World) (hB : Below w0.heap.size w0 w) (ho0_5 : Kd.R k75 75 w w0.heap.size P0_5_ u9000_ l0_5) (hk4 : a1_0 = 4) (h : ferruleref04_Step.f k a0_0 a0_1 a0_2 a0_3 a0_4 l0_5 a1_0 a1_1 a1_2 a1_3 a1_4 = some (r1, r2, r3, r4, r5, r6)) :
  Calls Try.prog 44 #[.agg #[.int .u64 a0_0, .int .u64 a0_1, .int .u64 a0_2, .int .u64 a0_3, .string a0_4, u9000_], .agg #[.int .i64 a1_0, .int .u64 a1_1, .int .u64 a1_2, .int .u64 a1_3, .string a1_4]] w fun e w' => ∃ v5_ : Value, e = .returned (.agg #[.int .u64 r1, .int .u64 r2, .int .u64 r3, .int .u64 r4, .string r5, v5_]) ∧ Kd.R k75 75 w' w0.heap.size (fun k_ => (P0_5_ k_ ∨ w.heap.size ≤ k_)) v5_ r6 ∧ Below w0.heap.size w0 w' ∧ Kept w w' (fun k_ => P0_5_ k_) := by
 have hu30 := Try.underlying30
 have hu39 := Try.underlying39
 have hu28 := Try.underlying28
 have hu75 := Try.underlying75
 have HO0_5 := am_ (show Kd.R k75 75 w w0.heap.size (fun k_ => (P0_5_ k_ ∨ w.heap.size ≤ k_)) u9000_ l0_5 from Kd.R_mono ho0_5 (fun k_ hk => (.inl hk)))
 have HK := am_ (Kept.refl w (fun k_ => P0_5_ k_))
 have HW0 := am_ hB.size
 have HB := am_ hB
 clear hB
 have H : (if a1_0 = 1 then (some (a1_2, a1_3, a0_2, a0_3, a0_4, l0_5)) else (if a1_0 = 2 then ((ferruleref04_Last.f a0_2 a0_3 a0_4 l0_5).bind fun t129 => (if a1_1 = (IntKind.u64.wrap (t129 + 1)) then (if (l0_5.length : Int) < 1024 then (if a1_1 ≤ 1099511627776 then ((some (([] : List (S75)) : List (S75))).bind fun y130 => (if y130.length + l0_5.length < 5864062014805 then ((some (y130 ++ l0_5 : List (S75))).bind fun y133 => ((some (([(⟨a1_2, a1_4⟩ : S75)] : List (S75)) : List (S75))).bind fun y136 => (if y133.length + y136.length < 5864062014805 then (some (a0_0, a0_1, a0_2, a0_3, a0_4, (y133 ++ y136))) else (none)))) else (none))) else (some (a0_0, a0_1, a0_2, a0_3, a0_4, l0_5))) else (some (a0_0, a0_1, a0_2, a0_3, a0_4, l0_5))) else (some (a0_0, a0_1, a0_2, a0_3, a0_4, l0_5)))) else (if a1_0 = 3 then (ferruleref04_Step.l0 k ([] : List (S75)) 0 a0_0 a0_1 a0_2 a0_3 a0_4 l0_5 a1_0 a1_1 a1_2 a1_3 a1_4 a0_2 a0_3 a0_4 l0_5) else (if a1_0 = 4 then (if a1_1 ≤ a0_2 then (ferruleref04_Step.j1 k true a0_0 a0_1 a0_2 a0_3 a0_4 l0_5 a1_0 a1_1 a1_2 a1_3 a1_4 a0_2 a0_3 a0_4 l0_5) else (ferruleref04_Step.j1 k (decide (a1_1 > 1099511627776)) a0_0 a0_1 a0_2 a0_3 a0_4 l0_5 a1_0 a1_1 a1_2 a1_3 a1_4 a0_2 a0_3 a0_4 l0_5)) else (some (a0_0, a0_1, a0_2, a0_3, a0_4, l0_5)))))) = some (r1, r2, r3, r4, r5, r6) := h
 clear h
 by_cases c3 : a1_0 = 1
 ·exact absurd (hk4.symm.trans c3) (by decide)
 ·rw [if_neg c3] at H
  have c3b0 : (a1_0 == 1) = false := beq_eq_false_iff_ne.mpr c3
  have c3b1 : (a1_0 != 1) = true := bne_iff_ne.mpr c3
  by_cases c20 : a1_0 = 2
  ·exact absurd (hk4.symm.trans c20) (by decide)
  ·rw [if_neg c20] at H
   have c20b0 : (a1_0 == 2) = false := beq_eq_false_iff_ne.mpr c20
   have c20b1 : (a1_0 != 2) = true := bne_iff_ne.mpr c20
   by_cases c114 : a1_0 = 3
   ·exact absurd (hk4.symm.trans c114) (by decide)
   ·rw [if_neg c114] at H
    have c114b0 : (a1_0 == 3) = false := beq_eq_false_iff_ne.mpr c114
    have c114b1 : (a1_0 != 3) = true := bne_iff_ne.mpr c114
    by_cases c161 : a1_0 = 4
    ·rw [if_pos c161] at H
     have c161b0 : (a1_0 == 4) = true := beq_iff_eq.mpr c161
     have c161b1 : (a1_0 != 4) = false := bne_eq_false_iff_eq.mpr c161
     clear c161
     have HC162 := am_ H
     clear H
     obtain ⟨Ao163, co163, eo163⟩ := Kd.R_slice HO0_5.out
     subst eo163
     go_enter Try.func44, Try.ntmps44
     go_upto_region 18 with (first | ((with_reducible refine gate_dst (N := 2) rfl ?_); (try (refine gate_guard (by rfl) ?_; dsimp only)); refine box_event ?hg (N := 2) ?hd (cs := #[.int .u64 a0_0, .int .u64 a0_1, .int .u64 a0_2, .int .u64 a0_3, .string a0_4, .slice Ao163 l0_5.length co163]) (t := 30) ?hr ?_; (case hd => rfl); (case hg => rfl); (case hr => first | (go_simp; done) | (go_simp; rfl)); intro gb125 hg w164 hbox hb; have n0_ := am_ (Kd.R_below (rx_ HO0_5) hb); have n1_ := am_ (Kept.below (S := (fun k_ => P0_5_ k_)) (kx_ HK) hb); have n2_ := am_ (below_step (hy_ HB) hb); have n3_ := am_ (hbox); have n4_ := am_ ((by rw [hg]; exact (by first | exact HK.out.1 | exact (show Kept w _ (fun k_ => P0_5_ k_) from kx_ HK).1) : w.heap.size ≤ gb125)); have n5_ := am_ ((by rw [hg]; exact (below_size (hx_ HB)) : w0.heap.size ≤ gb125)); clear HO0_5 HK HB; have HO0_5 := n0_; have HK := n1_; have HB := n2_; have BK125 := n3_; have GW125 := n4_; have GE125 := n5_; clear n0_ n1_ n2_ n3_ n4_ n5_; clear hb hbox hg) | ((with_reducible refine gate_dst (N := 3) rfl ?_); (try (refine gate_guard (by rfl) ?_; dsimp only)); refine box_event ?hg (N := 3) ?hd (cs := #[.int .i64 a1_0, .int .u64 a1_1, .int .u64 a1_2, .int .u64 a1_3, .string a1_4]) (t := 39) ?hr ?_; (case hd => rfl); (case hg => rfl); (case hr => first | (go_simp; done) | (go_simp; rfl)); intro gb126 hg w165 hbox hb; have n0_ := am_ (Kd.R_below (rx_ HO0_5) hb); have n1_ := am_ (bb_ BK125 hb); have n2_ := am_ (Kept.below (S := (fun k_ => P0_5_ k_)) (kx_ HK) hb); have n3_ := am_ (below_step (hy_ HB) hb); have n4_ := am_ (hbox); have n5_ := am_ ((by rw [hg]; exact (by first | exact HK.out.1 | exact (show Kept w _ (fun k_ => P0_5_ k_) from kx_ HK).1) : w.heap.size ≤ gb126)); have n6_ := am_ ((by rw [hg]; exact (below_size (hx_ HB)) : w0.heap.size ≤ gb126)); have n7_ := am_ ((by rw [hg]; exact Nat.ne_of_lt (bl_ BK125) : gb125 ≠ gb126)); have n8_ := am_ ((by rw [hg]; exact Nat.ne_of_gt (bl_ BK125) : gb126 ≠ gb125)); clear HO0_5 BK125 HK HB; have HO0_5 := n0_; have BK125 := n1_; have HK := n2_; have HB := n3_; have BK126 := n4_; have GW126 := n5_; have GE126 := n6_; have NB125_126 := n7_; have NB126_125 := n8_; clear n0_ n1_ n2_ n3_ n4_ n5_ n6_ n7_ n8_; clear hb hbox hg) | ((with_reducible refine gate_dst (N := 4) rfl ?_); (try (refine gate_guard (by rfl) ?_; dsimp only)); refine box_event ?hg (N := 4) ?hd (cs := #[.int .u64 0, .int .u64 0, .int .u64 0, .int .u64 0, .string (⟨#[]⟩ : ByteArray), .slice none 0 0]) (t := 30) ?hr ?_; (case hd => rfl); (case hg => rfl); (case hr => first | (go_simp; done) | (go_simp; rfl)); intro gb127 hg w166 hbox hb; have n0_ := am_ (Kd.R_below (rx_ HO0_5) hb); have n1_ := am_ (bb_ BK125 hb); have n2_ := am_ (bb_ BK126 hb); have n3_ := am_ (Kept.below (S := (fun k_ => P0_5_ k_)) (kx_ HK) hb); have n4_ := am_ (below_step (hy_ HB) hb); have n5_ := am_ (hbox); have n6_ := am_ ((by rw [hg]; exact (by first | exact HK.out.1 | exact (show Kept w _ (fun k_ => P0_5_ k_) from kx_ HK).1) : w.heap.size ≤ gb127)); have n7_ := am_ ((by rw [hg]; exact (below_size (hx_ HB)) : w0.heap.size ≤ gb127)); have n8_ := am_ ((by rw [hg]; exact Nat.ne_of_lt (bl_ BK125) : gb125 ≠ gb127)); have n9_ := am_ ((by rw [hg]; exact Nat.ne_of_gt (bl_ BK125) : gb127 ≠ gb125)); have n10_ := am_ ((by rw [hg]; exact Nat.ne_of_lt (bl_ BK126) : gb126 ≠ gb127)); have n11_ := am_ ((by rw [hg]; exact Nat.ne_of_gt (bl_ BK126) : gb127 ≠ gb126)); clear HO0_5 BK125 BK126 HK HB; have HO0_5 := n0_; have BK125 := n1_; have BK126 := n2_; have HK := n3_; have HB := n4_; have BK127 := n5_; have GW127 := n6_; have GE127 := n7_; have NB125_127 := n8_; have NB127_125 := n9_; have NB126_127 := n10_; have NB127_126 := n11_; clear n0_ n1_ n2_ n3_ n4_ n5_ n6_ n7_ n8_ n9_ n10_ n11_; clear hb hbox hg; have hnb167 := NB125_126.out; have hnc167 := NB126_125.out; have hnb168 := NB125_127.out; have hnc168 := NB127_125.out; have hcz169_0 : w166.cell? ⟨gb125, 0, none⟩ = some (.int .u64 a0_0) := (blk_cell BK125.out 0).trans rfl; have hcz169_1 : w166.cell? ⟨gb125, 1, none⟩ = some (.int .u64 a0_1) := (blk_cell BK125.out 1).trans rfl; have hcz169_2 : w166.cell? ⟨gb125, 2, none⟩ = some (.int .u64 a0_2) := (blk_cell BK125.out 2).trans rfl; have hcz169_3 : w166.cell? ⟨gb125, 3, none⟩ = some (.int .u64 a0_3) := (blk_cell BK125.out 3).trans rfl; have hcz169_4 : w166.cell? ⟨gb125, 4, none⟩ = some (.string a0_4) := (blk_cell BK125.out 4).trans rfl; have hcz169_5 : w166.cell? ⟨gb125, 5, none⟩ = some (.slice Ao163 l0_5.length co163) := (blk_cell BK125.out 5).trans rfl; have hfz169_0 := blk_frozen BK125.out 0; have hfz169_1 := blk_frozen BK125.out 1; have hfz169_2 := blk_frozen BK125.out 2; have hfz169_3 := blk_frozen BK125.out 3; have hfz169_4 := blk_frozen BK125.out 4; have hfz169_5 := blk_frozen BK125.out 5) | ((with_reducible refine gate_dst (N := 5) rfl ?_); (try (refine gate_guard (by rfl) ?_; dsimp only)); refine box_event ?hg (N := 5) ?hd (cs := #[.int .u64 0, .int .u64 0, .string (⟨#[]⟩ : ByteArray), .slice none 0 0]) (t := 28) ?hr ?_; (case hd => rfl); (case hg => rfl); (case hr => first | (go_simp; done) | (go_simp; rfl)); intro gb128 hg w170 hbox hb; have n0_ := am_ (Kd.R_below (rx_ HO0_5) hb); have n1_ := am_ (bb_ BK125 hb); have n2_ := am_ (bb_ BK126 hb); have n3_ := am_ (bb_ BK127 hb); have n4_ := am_ (Kept.below (S := (fun k_ => P0_5_ k_)) (kx_ HK) hb); have n5_ := am_ (below_step (hy_ HB) hb); have n6_ := am_ (hbox); have n7_ := am_ ((by rw [hg]; exact (by first | exact HK.out.1 | exact (show Kept w _ (fun k_ => P0_5_ k_) from kx_ HK).1) : w.heap.size ≤ gb128)); have n8_ := am_ ((by rw [hg]; exact (below_size (hx_ HB)) : w0.heap.size ≤ gb128)); have n9_ := am_ ((by rw [hg]; exact Nat.ne_of_lt (bl_ BK125) : gb125 ≠ gb128)); have n10_ := am_ ((by rw [hg]; exact Nat.ne_of_gt (bl_ BK125) : gb128 ≠ gb125)); have n11_ := am_ ((by rw [hg]; exact Nat.ne_of_lt (bl_ BK126) : gb126 ≠ gb128)); have n12_ := am_ ((by rw [hg]; exact Nat.ne_of_gt (bl_ BK126) : gb128 ≠ gb126)); have n13_ := am_ ((by rw [hg]; exact Nat.ne_of_lt (bl_ BK127) : gb127 ≠ gb128)); have n14_ := am_ ((by rw [hg]; exact Nat.ne_of_gt (bl_ BK127) : gb128 ≠ gb127)); clear HO0_5 BK125 BK126 BK127 HK HB; have HO0_5 := n0_; have BK125 := n1_; have BK126 := n2_; have BK127 := n3_; have HK := n4_; have HB := n5_; have BK128 := n6_; have GW128 := n7_; have GE128 := n8_; have NB125_128 := n9_; have NB128_125 := n10_; have NB126_128 := n11_; have NB128_126 := n12_; have NB127_128 := n13_; have NB128_127 := n14_; clear n0_ n1_ n2_ n3_ n4_ n5_ n6_ n7_ n8_ n9_ n10_ n11_ n12_ n13_ n14_; clear hb hbox hg; have hnb171 := NB128_125.out; have hnc171 := NB125_128.out; have hnb172 := NB128_126.out; have hnc172 := NB126_128.out; have hnb173 := NB128_127.out; have hnc173 := NB127_128.out; have hcz174_0 : w170.cell? ⟨gb128, 0, none⟩ = some (.int .u64 0) := (blk_cell BK128.out 0).trans rfl; have hcz174_1 : w170.cell? ⟨gb128, 1, none⟩ = some (.int .u64 0) := (blk_cell BK128.out 1).trans rfl; have hcz174_2 : w170.cell? ⟨gb128, 2, none⟩ = some (.string (⟨#[]⟩ : ByteArray)) := (blk_cell BK128.out 2).trans rfl; have hcz174_3 : w170.cell? ⟨gb128, 3, none⟩ = some (.slice none 0 0) := (blk_cell BK128.out 3).trans rfl; have hfz174_0 := blk_frozen BK128.out 0; have hfz174_1 := blk_frozen BK128.out 1; have hfz174_2 := blk_frozen BK128.out 2; have hfz174_3 := blk_frozen BK128.out 3; have hnb175 := NB126_127.out; have hnc175 := NB127_126.out; have hcz176_0 : w170.cell? ⟨gb126, 0, none⟩ = some (.int .i64 a1_0) := (blk_cell BK126.out 0).trans rfl; have hcz176_1 : w170.cell? ⟨gb126, 1, none⟩ = some (.int .u64 a1_1) := (blk_cell BK126.out 1).trans rfl; have hcz176_2 : w170.cell? ⟨gb126, 2, none⟩ = some (.int .u64 a1_2) := (blk_cell BK126.out 2).trans rfl; have hcz176_3 : w170.cell? ⟨gb126, 3, none⟩ = some (.int .u64 a1_3) := (blk_cell BK126.out 3).trans rfl; have hcz176_4 : w170.cell? ⟨gb126, 4, none⟩ = some (.string a1_4) := (blk_cell BK126.out 4).trans rfl; have hfz176_0 := blk_frozen BK126.out 0; have hfz176_1 := blk_frozen BK126.out 1; have hfz176_2 := blk_frozen BK126.out 2; have hfz176_3 := blk_frozen BK126.out 3; have hfz176_4 := blk_frozen BK126.out 4))
     (try simp only [Act.put, List.setIfInBounds_toArray, List.set_cons_zero, List.set_cons_succ])
     go_cut [96] (fun v96 wc => ∃ (kq : Nat) (x96_161 : Bool), v96 = .bool x96_161 ∧ Aside0 (ferruleref04_Step.j1 kq x96_161 a0_0 a0_1 a0_2 a0_3 a0_4 l0_5 a1_0 a1_1 a1_2 a1_3 a1_4 a0_2 a0_3 a0_4 l0_5 = some (r1, r2, r3, r4, r5, r6)) ∧ Aside0 (kq ≤ k) ∧ Aside0 (Kd.R k75 75 wc w0.heap.size (fun k_ => (P0_5_ k_ ∨ w.heap.size ≤ k_)) (.slice Ao163 l0_5.length co163) l0_5) ∧ Aside0 (Kd.R k75 75 wc w0.heap.size (fun k_ => (P0_5_ k_ ∨ w.heap.size ≤ k_)) (.slice Ao163 l0_5.length co163) l0_5) ∧ Aside0 (wc.heap[gb125]? = some (.cells #[.int .u64 a0_0, .int .u64 a0_1, .int .u64 a0_2, .int .u64 a0_3, .string a0_4, (.slice Ao163 l0_5.length co163)] 30 (0, 0))) ∧ Aside0 (wc.heap[gb126]? = some (.cells #[.int .i64 a1_0, .int .u64 a1_1, .int .u64 a1_2, .int .u64 a1_3, .string a1_4] 39 (0, 0))) ∧ Aside0 (wc.heap[gb127]? = some (.cells #[.int .u64 0, .int .u64 0, .int .u64 0, .int .u64 0, .string (⟨#[]⟩ : ByteArray), (.slice none 0 0)] 30 (0, 0))) ∧ Aside0 (wc.heap[gb128]? = some (.cells #[.int .u64 a0_2, .int .u64 a0_3, .string a0_4, (.slice Ao163 l0_5.length co163)] 28 (0, 0))) ∧ Aside0 (Kept w wc (fun k_ => P0_5_ k_)) ∧ Aside0 (Below w0.heap.size w0 wc))
     case first =>
      have H := HC162.out
      clear HC162
      by_cases c177 : a1_1 ≤ a0_2
      ·rw [if_pos c177] at H
       have c177b0 : decide (a1_1 ≤ a0_2) = true := decide_eq_true c177
       clear c177
       (first | rw [c177b0] | (simp only [i64_w, i32_w]; rw [c177b0]) | skip)
       have H' := am_ H
       clear H
       have hnb178 := NB126_125.out
       have hnc178 := NB125_126.out
       have hnb179 := NB126_127.out
       have hnc179 := NB127_126.out
       have hnb180 := NB126_128.out
       have hnc180 := NB128_126.out
       have hcz181_0 : w170.cell? ⟨gb126, 0, none⟩ = some (.int .i64 a1_0) := (blk_cell BK126.out 0).trans rfl
       have hcz181_1 : w170.cell? ⟨gb126, 1, none⟩ = some (.int .u64 a1_1) := (blk_cell BK126.out 1).trans rfl
       have hcz181_2 : w170.cell? ⟨gb126, 2, none⟩ = some (.int .u64 a1_2) := (blk_cell BK126.out 2).trans rfl
       have hcz181_3 : w170.cell? ⟨gb126, 3, none⟩ = some (.int .u64 a1_3) := (blk_cell BK126.out 3).trans rfl
       have hcz181_4 : w170.cell? ⟨gb126, 4, none⟩ = some (.string a1_4) := (blk_cell BK126.out 4).trans rfl
       have hfz181_0 := blk_frozen BK126.out 0
       have hfz181_1 := blk_frozen BK126.out 1
       have hfz181_2 := blk_frozen BK126.out 2
       have hfz181_3 := blk_frozen BK126.out 3
       have hfz181_4 := blk_frozen BK126.out 4
       have hnb182 := NB128_125.out
       have hnc182 := NB125_128.out
       have hnb183 := NB128_127.out
       have hnc183 := NB127_128.out
       have hcz184_0 : w170.cell? ⟨gb128, 0, none⟩ = some (.int .u64 0) := (blk_cell BK128.out 0).trans rfl
       have hcz184_1 : w170.cell? ⟨gb128, 1, none⟩ = some (.int .u64 0) := (blk_cell BK128.out 1).trans rfl
       have hcz184_2 : w170.cell? ⟨gb128, 2, none⟩ = some (.string (⟨#[]⟩ : ByteArray)) := (blk_cell BK128.out 2).trans rfl
       have hcz184_3 : w170.cell? ⟨gb128, 3, none⟩ = some (.slice none 0 0) := (blk_cell BK128.out 3).trans rfl
       have hfz184_0 := blk_frozen BK128.out 0
       have hfz184_1 := blk_frozen BK128.out 1
       have hfz184_2 := blk_frozen BK128.out 2
       have hfz184_3 := blk_frozen BK128.out 3
       go_wp2
       go_meet
       case rel => exact ⟨_, (true), (by first | rfl | (simp; done) | (simp [*]; done)), H', ⟨by first | omega | exact Nat.le_refl _⟩, ⟨by (with_reducible repeat (first | apply Kd.R_alloc | apply Kd.R_drewN | apply Kd.R_drew)); exact Kd.R_mono (Kd.R_far (p := ⟨gb128, 3, none⟩) (Kd.R_far (p := ⟨gb128, 2, none⟩) (Kd.R_far (p := ⟨gb128, 1, none⟩) (Kd.R_far (p := ⟨gb128, 0, none⟩) (Kd.R_types HO0_5.out BK128.out (by decide)) (fun _ hk => hk.2) (.int .u64 a0_2)) (fun _ hk => hk.2) (.int .u64 a0_3)) (fun _ hk => hk.2) (.string a0_4)) (fun _ hk => hk.2) (.slice Ao163 l0_5.length co163)) (fun _ hk => hk.1)⟩, ⟨by (with_reducible repeat (first | apply Kd.R_alloc | apply Kd.R_drewN | apply Kd.R_drew)); exact Kd.R_mono (Kd.R_far (p := ⟨gb128, 3, none⟩) (Kd.R_far (p := ⟨gb128, 2, none⟩) (Kd.R_far (p := ⟨gb128, 1, none⟩) (Kd.R_far (p := ⟨gb128, 0, none⟩) (Kd.R_types HO0_5.out BK128.out (by decide)) (fun _ hk => hk.2) (.int .u64 a0_2)) (fun _ hk => hk.2) (.int .u64 a0_3)) (fun _ hk => hk.2) (.string a0_4)) (fun _ hk => hk.2) (.slice Ao163 l0_5.length co163)) (fun _ hk => hk.1)⟩, ⟨by (with_reducible repeat (first | refine blk_drewN ?_ _ | refine blk_drew ?_ | refine blk_alloc ?_ _)); refine blk_far ?_ NB125_128.out _; (with_reducible repeat (first | refine blk_drewN ?_ _ | refine blk_drew ?_ | refine blk_alloc ?_ _)); refine blk_far ?_ NB125_128.out _; (with_reducible repeat (first | refine blk_drewN ?_ _ | refine blk_drew ?_ | refine blk_alloc ?_ _)); refine blk_far ?_ NB125_128.out _; (with_reducible repeat (first | refine blk_drewN ?_ _ | refine blk_drew ?_ | refine blk_alloc ?_ _)); refine blk_far ?_ NB125_128.out _; (with_reducible repeat (first | refine blk_drewN ?_ _ | refine blk_drew ?_ | refine blk_alloc ?_ _)); exact BK125.out⟩, ⟨by (with_reducible repeat (first | refine blk_drewN ?_ _ | refine blk_drew ?_ | refine blk_alloc ?_ _)); refine blk_far ?_ NB126_128.out _; (with_reducible repeat (first | refine blk_drewN ?_ _ | refine blk_drew ?_ | refine blk_alloc ?_ _)); refine blk_far ?_ NB126_128.out _; (with_reducible repeat (first | refine blk_drewN ?_ _ | refine blk_drew ?_ | refine blk_alloc ?_ _)); refine blk_far ?_ NB126_128.out _; (with_reducible repeat (first | refine blk_drewN ?_ _ | refine blk_drew ?_ | refine blk_alloc ?_ _)); refine blk_far ?_ NB126_128.out _; (with_reducible repeat (first | refine blk_drewN ?_ _ | refine blk_drew ?_ | refine blk_alloc ?_ _)); exact BK126.out⟩, ⟨by (with_reducible repeat (first | refine blk_drewN ?_ _ | refine blk_drew ?_ | refine blk_alloc ?_ _)); refine blk_far ?_ NB127_128.out _; (with_reducible repeat (first | refine blk_drewN ?_ _ | refine blk_drew ?_ | refine blk_alloc ?_ _)); refine blk_far ?_ NB127_128.out _; (with_reducible repeat (first | refine blk_drewN ?_ _ | refine blk_drew ?_ | refine blk_alloc ?_ _)); refine blk_far ?_ NB127_128.out _; (with_reducible repeat (first | refine blk_drewN ?_ _ | refine blk_drew ?_ | refine blk_alloc ?_ _)); refine blk_far ?_ NB127_128.out _; (with_reducible repeat (first | refine blk_drewN ?_ _ | refine blk_drew ?_ | refine blk_alloc ?_ _)); exact BK127.out⟩, ⟨by (with_reducible repeat (first | refine blk_drewN ?_ _ | refine blk_drew ?_ | refine blk_alloc ?_ _)); refine blk_put (cs := #[.int .u64 a0_2, .int .u64 a0_3, .string a0_4, .slice none 0 0]) ?_ 3 _ rfl; (with_reducible repeat (first | refine blk_drewN ?_ _ | refine blk_drew ?_ | refine blk_alloc ?_ _)); refine blk_put (cs := #[.int .u64 a0_2, .int .u64 a0_3, .string (⟨#[]⟩ : ByteArray), .slice none 0 0]) ?_ 2 _ rfl; (with_reducible repeat (first | refine blk_drewN ?_ _ | refine blk_drew ?_ | refine blk_alloc ?_ _)); refine blk_put (cs := #[.int .u64 a0_2, .int .u64 0, .string (⟨#[]⟩ : ByteArray), .slice none 0 0]) ?_ 1 _ rfl; (with_reducible repeat (first | refine blk_drewN ?_ _ | refine blk_drew ?_ | refine blk_alloc ?_ _)); refine blk_put (cs := #[.int .u64 0, .int .u64 0, .string (⟨#[]⟩ : ByteArray), .slice none 0 0]) ?_ 0 _ rfl; (with_reducible repeat (first | refine blk_drewN ?_ _ | refine blk_drew ?_ | refine blk_alloc ?_ _)); exact BK128.out⟩, ⟨kx_ HK⟩, ⟨hx_ HB⟩⟩
      ·rw [if_neg c177] at H
       have c177b0 : decide (a1_1 ≤ a0_2) = false := decide_eq_false c177
       clear c177
       (first | rw [c177b0] | (simp only [i64_w, i32_w]; rw [c177b0]) | skip)
       have H' := am_ H
       clear H
       have hnb185 := NB126_125.out
       have hnc185 := NB125_126.out
       have hnb186 := NB126_127.out
       have hnc186 := NB127_126.out
       have hnb187 := NB126_128.out
       have hnc187 := NB128_126.out
       have hcz188_0 : w170.cell? ⟨gb126, 0, none⟩ = some (.int .i64 a1_0) := (blk_cell BK126.out 0).trans rfl
       have hcz188_1 : w170.cell? ⟨gb126, 1, none⟩ = some (.int .u64 a1_1) := (blk_cell BK126.out 1).trans rfl
       have hcz188_2 : w170.cell? ⟨gb126, 2, none⟩ = some (.int .u64 a1_2) := (blk_cell BK126.out 2).trans rfl
       have hcz188_3 : w170.cell? ⟨gb126, 3, none⟩ = some (.int .u64 a1_3) := (blk_cell BK126.out 3).trans rfl
       have hcz188_4 : w170.cell? ⟨gb126, 4, none⟩ = some (.string a1_4) := (blk_cell BK126.out 4).trans rfl
       have hfz188_0 := blk_frozen BK126.out 0
       have hfz188_1 := blk_frozen BK126.out 1
       have hfz188_2 := blk_frozen BK126.out 2
       have hfz188_3 := blk_frozen BK126.out 3
       have hfz188_4 := blk_frozen BK126.out 4
       have hnb189 := NB128_125.out
       have hnc189 := NB125_128.out
       have hnb190 := NB128_127.out
       have hnc190 := NB127_128.out
       have hcz191_0 : w170.cell? ⟨gb128, 0, none⟩ = some (.int .u64 0) := (blk_cell BK128.out 0).trans rfl
       have hcz191_1 : w170.cell? ⟨gb128, 1, none⟩ = some (.int .u64 0) := (blk_cell BK128.out 1).trans rfl
       have hcz191_2 : w170.cell? ⟨gb128, 2, none⟩ = some (.string (⟨#[]⟩ : ByteArray)) := (blk_cell BK128.out 2).trans rfl
       have hcz191_3 : w170.cell? ⟨gb128, 3, none⟩ = some (.slice none 0 0) := (blk_cell BK128.out 3).trans rfl
       have hfz191_0 := blk_frozen BK128.out 0
       have hfz191_1 := blk_frozen BK128.out 1
       have hfz191_2 := blk_frozen BK128.out 2
       have hfz191_3 := blk_frozen BK128.out 3
       go_wp2
       go_meet
       case rel => exact ⟨_, (decide (a1_1 > 1099511627776)), (by first | rfl | (simp; done) | (simp [*]; done)), H', ⟨by first | omega | exact Nat.le_refl _⟩, ⟨by (with_reducible repeat (first | apply Kd.R_alloc | apply Kd.R_drewN | apply Kd.R_drew)); exact Kd.R_mono (Kd.R_far (p := ⟨gb128, 3, none⟩) (Kd.R_far (p := ⟨gb128, 2, none⟩) (Kd.R_far (p := ⟨gb128, 1, none⟩) (Kd.R_far (p := ⟨gb128, 0, none⟩) (Kd.R_types HO0_5.out BK128.out (by decide)) (fun _ hk => hk.2) (.int .u64 a0_2)) (fun _ hk => hk.2) (.int .u64 a0_3)) (fun _ hk => hk.2) (.string a0_4)) (fun _ hk => hk.2) (.slice Ao163 l0_5.length co163)) (fun _ hk => hk.1)⟩, ⟨by (with_reducible repeat (first | apply Kd.R_alloc | apply Kd.R_drewN | apply Kd.R_drew)); exact Kd.R_mono (Kd.R_far (p := ⟨gb128, 3, none⟩) (Kd.R_far (p := ⟨gb128, 2, none⟩) (Kd.R_far (p := ⟨gb128, 1, none⟩) (Kd.R_far (p := ⟨gb128, 0, none⟩) (Kd.R_types HO0_5.out BK128.out (by decide)) (fun _ hk => hk.2) (.int .u64 a0_2)) (fun _ hk => hk.2) (.int .u64 a0_3)) (fun _ hk => hk.2) (.string a0_4)) (fun _ hk => hk.2) (.slice Ao163 l0_5.length co163)) (fun _ hk => hk.1)⟩, ⟨by (with_reducible repeat (first | refine blk_drewN ?_ _ | refine blk_drew ?_ | refine blk_alloc ?_ _)); refine blk_far ?_ NB125_128.out _; (with_reducible repeat (first | refine blk_drewN ?_ _ | refine blk_drew ?_ | refine blk_alloc ?_ _)); refine blk_far ?_ NB125_128.out _; (with_reducible repeat (first | refine blk_drewN ?_ _ | refine blk_drew ?_ | refine blk_alloc ?_ _)); refine blk_far ?_ NB125_128.out _; (with_reducible repeat (first | refine blk_drewN ?_ _ | refine blk_drew ?_ | refine blk_alloc ?_ _)); refine blk_far ?_ NB125_128.out _; (with_reducible repeat (first | refine blk_drewN ?_ _ | refine blk_drew ?_ | refine blk_alloc ?_ _)); exact BK125.out⟩, ⟨by (with_reducible repeat (first | refine blk_drewN ?_ _ | refine blk_drew ?_ | refine blk_alloc ?_ _)); refine blk_far ?_ NB126_128.out _; (with_reducible repeat (first | refine blk_drewN ?_ _ | refine blk_drew ?_ | refine blk_alloc ?_ _)); refine blk_far ?_ NB126_128.out _; (with_reducible repeat (first | refine blk_drewN ?_ _ | refine blk_drew ?_ | refine blk_alloc ?_ _)); refine blk_far ?_ NB126_128.out _; (with_reducible repeat (first | refine blk_drewN ?_ _ | refine blk_drew ?_ | refine blk_alloc ?_ _)); refine blk_far ?_ NB126_128.out _; (with_reducible repeat (first | refine blk_drewN ?_ _ | refine blk_drew ?_ | refine blk_alloc ?_ _)); exact BK126.out⟩, ⟨by (with_reducible repeat (first | refine blk_drewN ?_ _ | refine blk_drew ?_ | refine blk_alloc ?_ _)); refine blk_far ?_ NB127_128.out _; (with_reducible repeat (first | refine blk_drewN ?_ _ | refine blk_drew ?_ | refine blk_alloc ?_ _)); refine blk_far ?_ NB127_128.out _; (with_reducible repeat (first | refine blk_drewN ?_ _ | refine blk_drew ?_ | refine blk_alloc ?_ _)); refine blk_far ?_ NB127_128.out _; (with_reducible repeat (first | refine blk_drewN ?_ _ | refine blk_drew ?_ | refine blk_alloc ?_ _)); refine blk_far ?_ NB127_128.out _; (with_reducible repeat (first | refine blk_drewN ?_ _ | refine blk_drew ?_ | refine blk_alloc ?_ _)); exact BK127.out⟩, ⟨by (with_reducible repeat (first | refine blk_drewN ?_ _ | refine blk_drew ?_ | refine blk_alloc ?_ _)); refine blk_put (cs := #[.int .u64 a0_2, .int .u64 a0_3, .string a0_4, .slice none 0 0]) ?_ 3 _ rfl; (with_reducible repeat (first | refine blk_drewN ?_ _ | refine blk_drew ?_ | refine blk_alloc ?_ _)); refine blk_put (cs := #[.int .u64 a0_2, .int .u64 a0_3, .string (⟨#[]⟩ : ByteArray), .slice none 0 0]) ?_ 2 _ rfl; (with_reducible repeat (first | refine blk_drewN ?_ _ | refine blk_drew ?_ | refine blk_alloc ?_ _)); refine blk_put (cs := #[.int .u64 a0_2, .int .u64 0, .string (⟨#[]⟩ : ByteArray), .slice none 0 0]) ?_ 1 _ rfl; (with_reducible repeat (first | refine blk_drewN ?_ _ | refine blk_drew ?_ | refine blk_alloc ?_ _)); refine blk_put (cs := #[.int .u64 0, .int .u64 0, .string (⟨#[]⟩ : ByteArray), .slice none 0 0]) ?_ 0 _ rfl; (with_reducible repeat (first | refine blk_drewN ?_ _ | refine blk_drew ?_ | refine blk_alloc ?_ _)); exact BK128.out⟩, ⟨kx_ HK⟩, ⟨hx_ HB⟩⟩
     case rest =>
      clear HC162
      try clear c1
      try clear p1
      try clear q1
      try clear hx1
      try clear c2
      try clear p2
      try clear c4
      try clear c5
      try clear p6
      try clear c8
      try clear c9
      try clear c10
      try clear c11
      try clear c12
      try clear c13
      try clear c14
      try clear p14
      try clear q14
      try clear hx14
      try clear c15
      try clear c16
      try clear c17
      try clear c18
      try clear c19
      try clear c20
      try clear c20b0
      try clear c20b1
      try clear c22
      try clear c22b0
      try clear c22b1
      try clear c23
      try clear c23b0
      try clear c23b1
      try clear c44
      try clear c54
      try clear p64
      try clear c80
      try clear c81
      try clear c84
      try clear c85
      try clear c86
      try clear c88
      try clear c99
      try clear c100
      try clear c103
      try clear c104
      try clear c105
      try clear c107
      try clear c114
      try clear c114b0
      try clear c114b1
      try clear c119
      try clear c120
      try clear c123
      try clear c124
      try clear c125
      try clear c127
      try clear c129
      try clear c129b0
      try clear c130
      try clear c130b0
      try clear c131
      try clear c131b0
      try clear c132
      try clear c133
      try clear c134
      try clear c135
      try clear c137
      try clear c138
      try clear p142
      try clear q142
      try clear hx142
      try clear c144
      try clear c145
      try clear c146
      try clear c148
      try clear c149
      try clear c151
      try clear c152
      try clear c153
      try clear c156
      try clear c157
      try clear c159
      try clear c161
      try clear c161b0
      try clear c161b1
      try clear c167
      try clear c168
      try clear c171
      try clear c172
      try clear c173
      try clear c175
      try clear c177
      try clear c177b0
      try clear c178
      try clear c179
      try clear c180
      try clear c182
      try clear c183
      try clear c185
      try clear c186
      try clear c187
      try clear c189
      try clear c190
      try clear hcz101_0
      try clear hcz101_1
      try clear hcz101_2
      try clear hcz101_3
      try clear hcz101_4
      try clear hcz101_5
      try clear hcz106_0
      try clear hcz106_1
      try clear hcz106_2
      try clear hcz106_3
      try clear hcz108_0
      try clear hcz108_1
      try clear hcz108_2
      try clear hcz108_3
      try clear hcz108_4
      try clear hcz112_0
      try clear hcz112_1
      try clear hcz112_2
      try clear hcz112_3
      try clear hcz112_4
      try clear hcz112_5
      try clear hcz113_0
      try clear hcz113_1
      try clear hcz113_2
      try clear hcz113_3
      try clear hcz113_4
      try clear hcz113_5
      try clear hcz121_0
      try clear hcz121_1
      try clear hcz121_2
      try clear hcz121_3
      try clear hcz121_4
      try clear hcz121_5
      try clear hcz126_0
      try clear hcz126_1
      try clear hcz126_2
      try clear hcz126_3
      try clear hcz128_0
      try clear hcz128_1
      try clear hcz128_2
      try clear hcz128_3
      try clear hcz128_4
      try clear hcz136_0
      try clear hcz136_1
      try clear hcz136_2
      try clear hcz136_3
      try clear hcz139_0
      try clear hcz139_1
      try clear hcz139_2
      try clear hcz139_3
      try clear hcz139_4
      try clear hcz147_0
      try clear hcz147_1
      try clear hcz147_2
      try clear hcz147_3
      try clear hcz150_0
      try clear hcz150_1
      try clear hcz150_2
      try clear hcz150_3
      try clear hcz150_4
      try clear hcz154_0
      try clear hcz154_1
      try clear hcz154_2
      try clear hcz154_3
      try clear hcz158_0
      try clear hcz158_1
      try clear hcz158_2
      try clear hcz158_3
      try clear hcz158_4
      try clear hcz158_5
      try clear hcz160_0
      try clear hcz160_1
      try clear hcz160_2
      try clear hcz160_3
      try clear hcz160_4
      try clear hcz160_5
      try clear hcz169_0
      try clear hcz169_1
      try clear hcz169_2
      try clear hcz169_3
      try clear hcz169_4
      try clear hcz169_5
      try clear hcz174_0
      try clear hcz174_1
      try clear hcz174_2
      try clear hcz174_3
      try clear hcz176_0
      try clear hcz176_1
      try clear hcz176_2
      try clear hcz176_3
      try clear hcz176_4
      try clear hcz181_0
      try clear hcz181_1
      try clear hcz181_2
      try clear hcz181_3
      try clear hcz181_4
      try clear hcz184_0
      try clear hcz184_1
      try clear hcz184_2
      try clear hcz184_3
      try clear hcz188_0
      try clear hcz188_1
      try clear hcz188_2
      try clear hcz188_3
      try clear hcz188_4
      try clear hcz191_0
      try clear hcz191_1
      try clear hcz191_2
      try clear hcz191_3
      try clear hcz74_0
      try clear hcz74_1
      try clear hcz74_2
      try clear hcz74_3
      try clear hcz74_4
      try clear hcz74_5
      try clear hcz75_0
      try clear hcz75_1
      try clear hcz75_2
      try clear hcz75_3
      try clear hcz75_4
      try clear hcz75_5
      try clear hcz82_0
      try clear hcz82_1
      try clear hcz82_2
      try clear hcz82_3
      try clear hcz82_4
      try clear hcz82_5
      try clear hcz87_0
      try clear hcz87_1
      try clear hcz87_2
      try clear hcz87_3
      try clear hcz89_0
      try clear hcz89_1
      try clear hcz89_2
      try clear hcz89_3
      try clear hcz89_4
      try clear hcz93_0
      try clear hcz93_1
      try clear hcz93_2
      try clear hcz93_3
      try clear hcz93_4
      try clear hcz93_5
      try clear hcz94_0
      try clear hcz94_1
      try clear hcz94_2
      try clear hcz94_3
      try clear hcz94_4
      try clear hcz94_5
      try clear hfz101_0
      try clear hfz101_1
      try clear hfz101_2
      try clear hfz101_3
      try clear hfz101_4
      try clear hfz101_5
      try clear hfz106_0
      try clear hfz106_1
      try clear hfz106_2
      try clear hfz106_3
      try clear hfz108_0
      try clear hfz108_1
      try clear hfz108_2
      try clear hfz108_3
      try clear hfz108_4
      try clear hfz112_0
      try clear hfz112_1
      try clear hfz112_2
      try clear hfz112_3
      try clear hfz112_4
      try clear hfz112_5
      try clear hfz113_0
      try clear hfz113_1
      try clear hfz113_2
      try clear hfz113_3
      try clear hfz113_4
      try clear hfz113_5
      try clear hfz121_0
      try clear hfz121_1
      try clear hfz121_2
      try clear hfz121_3
      try clear hfz121_4
      try clear hfz121_5
      try clear hfz126_0
      try clear hfz126_1
      try clear hfz126_2
      try clear hfz126_3
      try clear hfz128_0
      try clear hfz128_1
      try clear hfz128_2
      try clear hfz128_3
      try clear hfz128_4
      try clear hfz136_0
      try clear hfz136_1
      try clear hfz136_2
      try clear hfz136_3
      try clear hfz139_0
      try clear hfz139_1
      try clear hfz139_2
      try clear hfz139_3
      try clear hfz139_4
      try clear hfz147_0
      try clear hfz147_1
      try clear hfz147_2
      try clear hfz147_3
      try clear hfz150_0
      try clear hfz150_1
      try clear hfz150_2
      try clear hfz150_3
      try clear hfz150_4
      try clear hfz154_0
      try clear hfz154_1
      try clear hfz154_2
      try clear hfz154_3
      try clear hfz158_0
      try clear hfz158_1
      try clear hfz158_2
      try clear hfz158_3
      try clear hfz158_4
      try clear hfz158_5
      try clear hfz160_0
      try clear hfz160_1
      try clear hfz160_2
      try clear hfz160_3
      try clear hfz160_4
      try clear hfz160_5
      try clear hfz169_0
      try clear hfz169_1
      try clear hfz169_2
      try clear hfz169_3
      try clear hfz169_4
      try clear hfz169_5
      try clear hfz174_0
      try clear hfz174_1
      try clear hfz174_2
      try clear hfz174_3
      try clear hfz176_0
      try clear hfz176_1
      try clear hfz176_2
      try clear hfz176_3
      try clear hfz176_4
      try clear hfz181_0
      try clear hfz181_1
      try clear hfz181_2
      try clear hfz181_3
      try clear hfz181_4
      try clear hfz184_0
      try clear hfz184_1
      try clear hfz184_2
      try clear hfz184_3
      try clear hfz188_0
      try clear hfz188_1
      try clear hfz188_2
      try clear hfz188_3
      try clear hfz188_4
      try clear hfz191_0
      try clear hfz191_1
      try clear hfz191_2
      try clear hfz191_3
      try clear hfz74_0
      try clear hfz74_1
      try clear hfz74_2
      try clear hfz74_3
      try clear hfz74_4
      try clear hfz74_5
      try clear hfz75_0
      try clear hfz75_1
      try clear hfz75_2
      try clear hfz75_3
      try clear hfz75_4
      try clear hfz75_5
      try clear hfz82_0
      try clear hfz82_1
      try clear hfz82_2
      try clear hfz82_3
      try clear hfz82_4
      try clear hfz82_5
      try clear hfz87_0
      try clear hfz87_1
      try clear hfz87_2
      try clear hfz87_3
      try clear hfz89_0
      try clear hfz89_1
      try clear hfz89_2
      try clear hfz89_3
      try clear hfz89_4
      try clear hfz93_0
      try clear hfz93_1
      try clear hfz93_2
      try clear hfz93_3
      try clear hfz93_4
      try clear hfz93_5
      try clear hfz94_0
      try clear hfz94_1
      try clear hfz94_2
      try clear hfz94_3
      try clear hfz94_4
      try clear hfz94_5
      try clear hx142_0
      try clear hx142_1
      try clear p142
      try clear p2
      try clear q142
      obtain ⟨kq, x96_161, rfl, HA, HJ161, HO_126005, HO_129003, BK125, BK126, BK127, BK128, HK, HB⟩ := hcut
      cases kq with
      | zero => exact absurd HA.out (by simp [ferruleref04_Step.j1])
      | succ kj161 =>
       have H := HA.out
       clear HA
       simp only [ferruleref04_Step.j1] at H
       by_cases c192 : x96_161 = true
       ·subst c192
        have H1 : (some (a0_0, a0_1, a0_2, a0_3, a0_4, l0_5)) = some (r1, r2, r3, r4, r5, r6) := by rw [if_pos rfl] at H; exact H
        clear H
        have H := H1
        clear H1
        simp only [Option.some.injEq, Prod.mk.injEq] at H
        obtain ⟨rfl, rfl, rfl, rfl, rfl, rfl⟩ := H
        have hnb193 := NB125_126.out
        have hnc193 := NB126_125.out
        have hnb194 := NB125_127.out
        have hnc194 := NB127_125.out
        have hnb195 := NB125_128.out
        have hnc195 := NB128_125.out
        have hcz196_0 : wc.cell? ⟨gb125, 0, none⟩ = some (.int .u64 a0_0) := (blk_cell BK125.out 0).trans rfl
        have hcz196_1 : wc.cell? ⟨gb125, 1, none⟩ = some (.int .u64 a0_1) := (blk_cell BK125.out 1).trans rfl
        have hcz196_2 : wc.cell? ⟨gb125, 2, none⟩ = some (.int .u64 a0_2) := (blk_cell BK125.out 2).trans rfl
        have hcz196_3 : wc.cell? ⟨gb125, 3, none⟩ = some (.int .u64 a0_3) := (blk_cell BK125.out 3).trans rfl
        have hcz196_4 : wc.cell? ⟨gb125, 4, none⟩ = some (.string a0_4) := (blk_cell BK125.out 4).trans rfl
        have hcz196_5 : wc.cell? ⟨gb125, 5, none⟩ = some (.slice Ao163 l0_5.length co163) := (blk_cell BK125.out 5).trans rfl
        have hfz196_0 := blk_frozen BK125.out 0
        have hfz196_1 := blk_frozen BK125.out 1
        have hfz196_2 := blk_frozen BK125.out 2
        have hfz196_3 := blk_frozen BK125.out 3
        have hfz196_4 := blk_frozen BK125.out 4
        have hfz196_5 := blk_frozen BK125.out 5
        have hnb197 := NB127_126.out
        have hnc197 := NB126_127.out
        have hnb198 := NB127_128.out
        have hnc198 := NB128_127.out
        have hcz199_0 : wc.cell? ⟨gb127, 0, none⟩ = some (.int .u64 0) := (blk_cell BK127.out 0).trans rfl
        have hcz199_1 : wc.cell? ⟨gb127, 1, none⟩ = some (.int .u64 0) := (blk_cell BK127.out 1).trans rfl
        have hcz199_2 : wc.cell? ⟨gb127, 2, none⟩ = some (.int .u64 0) := (blk_cell BK127.out 2).trans rfl
        have hcz199_3 : wc.cell? ⟨gb127, 3, none⟩ = some (.int .u64 0) := (blk_cell BK127.out 3).trans rfl
        have hcz199_4 : wc.cell? ⟨gb127, 4, none⟩ = some (.string (⟨#[]⟩ : ByteArray)) := (blk_cell BK127.out 4).trans rfl
        have hcz199_5 : wc.cell? ⟨gb127, 5, none⟩ = some (.slice none 0 0) := (blk_cell BK127.out 5).trans rfl
        have hfz199_0 := blk_frozen BK127.out 0
        have hfz199_1 := blk_frozen BK127.out 1
        have hfz199_2 := blk_frozen BK127.out 2
        have hfz199_3 := blk_frozen BK127.out 3
        have hfz199_4 := blk_frozen BK127.out 4
        have hfz199_5 := blk_frozen BK127.out 5
        go_wp2
        refine bodyPost_ret (results_cell_row rfl _ _ gb127 30 #[.int .u64 a0_0, .int .u64 a0_1, .int .u64 a0_2, .int .u64 a0_3, .string a0_4, .slice Ao163 l0_5.length co163] (0, 0) _ rfl (by (with_reducible repeat (first | refine blk_drewN ?_ _ | refine blk_drew ?_ | refine blk_alloc ?_ _)); refine blk_put (cs := #[.int .u64 a0_0, .int .u64 a0_1, .int .u64 a0_2, .int .u64 a0_3, .string a0_4, .slice none 0 0]) ?_ 5 _ rfl; (with_reducible repeat (first | refine blk_drewN ?_ _ | refine blk_drew ?_ | refine blk_alloc ?_ _)); refine blk_put (cs := #[.int .u64 a0_0, .int .u64 a0_1, .int .u64 a0_2, .int .u64 a0_3, .string (⟨#[]⟩ : ByteArray), .slice none 0 0]) ?_ 4 _ rfl; (with_reducible repeat (first | refine blk_drewN ?_ _ | refine blk_drew ?_ | refine blk_alloc ?_ _)); refine blk_put (cs := #[.int .u64 a0_0, .int .u64 a0_1, .int .u64 a0_2, .int .u64 0, .string (⟨#[]⟩ : ByteArray), .slice none 0 0]) ?_ 3 _ rfl; (with_reducible repeat (first | refine blk_drewN ?_ _ | refine blk_drew ?_ | refine blk_alloc ?_ _)); refine blk_put (cs := #[.int .u64 a0_0, .int .u64 a0_1, .int .u64 0, .int .u64 0, .string (⟨#[]⟩ : ByteArray), .slice none 0 0]) ?_ 2 _ rfl; (with_reducible repeat (first | refine blk_drewN ?_ _ | refine blk_drew ?_ | refine blk_alloc ?_ _)); refine blk_put (cs := #[.int .u64 a0_0, .int .u64 0, .int .u64 0, .int .u64 0, .string (⟨#[]⟩ : ByteArray), .slice none 0 0]) ?_ 1 _ rfl; (with_reducible repeat (first | refine blk_drewN ?_ _ | refine blk_drew ?_ | refine blk_alloc ?_ _)); refine blk_put (cs := #[.int .u64 0, .int .u64 0, .int .u64 0, .int .u64 0, .string (⟨#[]⟩ : ByteArray), .slice none 0 0]) ?_ 0 _ rfl; (with_reducible repeat (first | refine blk_drewN ?_ _ | refine blk_drew ?_ | refine blk_alloc ?_ _)); exact BK127.out) Try.underlying30 rfl (by kernel_rfl)) rfl ?_
        exact ⟨_, by first | rfl | (simp [errW_none, errW_some] <;> rfl) | (simp [*, errW_none, errW_some] <;> rfl), by (with_reducible repeat (first | apply Kd.R_alloc | apply Kd.R_drewN | apply Kd.R_drew)); exact Kd.R_mono (Kd.R_far (p := ⟨gb127, 5, none⟩) (Kd.R_far (p := ⟨gb127, 4, none⟩) (Kd.R_far (p := ⟨gb127, 3, none⟩) (Kd.R_far (p := ⟨gb127, 2, none⟩) (Kd.R_far (p := ⟨gb127, 1, none⟩) (Kd.R_far (p := ⟨gb127, 0, none⟩) (Kd.R_types HO_126005.out BK127.out (by decide)) (fun _ hk => hk.2) (.int .u64 a0_0)) (fun _ hk => hk.2) (.int .u64 a0_1)) (fun _ hk => hk.2) (.int .u64 a0_2)) (fun _ hk => hk.2) (.int .u64 a0_3)) (fun _ hk => hk.2) (.string a0_4)) (fun _ hk => hk.2) (.slice Ao163 l0_5.length co163)) (fun _ hk => hk.1), hx_ HB, kx_ HK⟩
       ·replace c192 := Bool.eq_false_iff.mpr c192
        subst c192
        have H1 : (ferruleref04_Step.l1 kj161 ([] : List (S75)) false 0 a0_0 a0_1 a0_2 a0_3 a0_4 l0_5 a1_0 a1_1 a1_2 a1_3 a1_4 a0_2 a0_3 a0_4 l0_5) = some (r1, r2, r3, r4, r5, r6) := by rw [if_neg (show ¬ (false = true) by decide)] at H; exact H
        clear H
        have H := H1
        clear H1
        have H' := am_ H
        clear H
        go_wp2
        go_loopg [8, 9, 10] kj161 (fun kq v8 v9 v10 w' => ∃ (x8_2 : List (S75)) (x9_2 : Bool) (x10_2 : Int), v9 = .bool x9_2 ∧ v10 = .int .i64 x10_2 ∧ Aside0 (ferruleref04_Step.l1 kq x8_2 x9_2 x10_2 a0_0 a0_1 a0_2 a0_3 a0_4 l0_5 a1_0 a1_1 a1_2 a1_3 a1_4 a0_2 a0_3 a0_4 l0_5 = some (r1, r2, r3, r4, r5, r6)) ∧ Aside0 (kq ≤ kj161) ∧ Aside0 (Kd.R k75 75 w' w0.heap.size (fun k_ => (P0_5_ k_ ∨ w.heap.size ≤ k_) ∧ some k_ ≠ ((.slice Ao163 l0_5.length co163) : Value).ownBlock ∧ some k_ ≠ ((.slice Ao163 l0_5.length co163) : Value).ownBlock) v8 x8_2) ∧ Aside0 (Kd.R k75 75 w' w0.heap.size (fun k_ => (P0_5_ k_ ∨ w.heap.size ≤ k_) ∧ some k_ ≠ (v8 : Value).ownBlock) (.slice Ao163 l0_5.length co163) l0_5) ∧ Aside0 (Kd.R k75 75 w' w0.heap.size (fun k_ => (P0_5_ k_ ∨ w.heap.size ≤ k_) ∧ some k_ ≠ (v8 : Value).ownBlock) (.slice Ao163 l0_5.length co163) l0_5) ∧ Aside0 (w'.heap[gb125]? = some (.cells #[.int .u64 a0_0, .int .u64 a0_1, .int .u64 a0_2, .int .u64 a0_3, .string a0_4, (.slice Ao163 l0_5.length co163)] 30 (0, 0))) ∧ Aside0 (w'.heap[gb126]? = some (.cells #[.int .i64 a1_0, .int .u64 a1_1, .int .u64 a1_2, .int .u64 a1_3, .string a1_4] 39 (0, 0))) ∧ Aside0 (w'.heap[gb127]? = some (.cells #[.int .u64 0, .int .u64 0, .int .u64 0, .int .u64 0, .string (⟨#[]⟩ : ByteArray), (.slice none 0 0)] 30 (0, 0))) ∧ Aside0 (w'.heap[gb128]? = some (.cells #[.int .u64 a0_2, .int .u64 a0_3, .string a0_4, (.slice Ao163 l0_5.length co163)] 28 (0, 0))) ∧ Aside0 (Kept w w' (fun k_ => P0_5_ k_)) ∧ Aside0 (Below w0.heap.size w0 w'))
        case atStart => exact ⟨(([] : List (S75))), (false), (0), (by first | rfl | (simp; done) | (simp [*]; done)), (by first | rfl | (simp; done) | (simp [*]; done)), H', ⟨Nat.le_refl _⟩, ⟨by first | exact Kd.R_nil _ _ _ _ _ | exact Kd.N_nil _ _ _ _ _ | exact Kd.V_nil _ _ _ _ _ | exact Kd.Q_nil _ _ _ _ _ | exact Kd.S_nil _ _ _ _ _⟩, ⟨by (with_reducible repeat (first | apply Kd.R_alloc | apply Kd.R_drewN | apply Kd.R_drew)); exact Kd.R_mono HO_126005.out (fun _ hk => ⟨hk, (by simp [Value.ownBlock])⟩)⟩, ⟨by (with_reducible repeat (first | apply Kd.R_alloc | apply Kd.R_drewN | apply Kd.R_drew)); exact Kd.R_mono HO_129003.out (fun _ hk => ⟨hk, (by simp [Value.ownBlock])⟩)⟩, ⟨bx_ BK125⟩, ⟨bx_ BK126⟩, ⟨bx_ BK127⟩, ⟨bx_ BK128⟩, ⟨kx_ HK⟩, ⟨hx_ HB⟩⟩
        case round =>
         clear H'
         try clear c1
         try clear p1
         try clear q1
         try clear hx1
         try clear c2
         try clear p2
         try clear c4
         try clear c5
         try clear p6
         try clear c8
         try clear c9
         try clear c10
         try clear c11
         try clear c12
         try clear c13
         try clear c14
         try clear p14
         try clear q14
         try clear hx14
         try clear c15
         try clear c16
         try clear c17
         try clear c18
         try clear c19
         try clear c20
         try clear c20b0
         try clear c20b1
         try clear c22
         try clear c22b0
         try clear c22b1
         try clear c23
         try clear c23b0
         try clear c23b1
         try clear c44
         try clear c54
         try clear p64
         try clear c80
         try clear c81
         try clear c84
         try clear c85
         try clear c86
         try clear c88
         try clear c99
         try clear c100
         try clear c103
         try clear c104
         try clear c105
         try clear c107
         try clear c114
         try clear c114b0
         try clear c114b1
         try clear c119
         try clear c120
         try clear c123
         try clear c124
         try clear c125
         try clear c127
         try clear c129
         try clear c129b0
         try clear c130
         try clear c130b0
         try clear c131
         try clear c131b0
         try clear c132
         try clear c133
         try clear c134
         try clear c135
         try clear c137
         try clear c138
         try clear p142
         try clear q142
         try clear hx142
         try clear c144
         try clear c145
         try clear c146
         try clear c148
         try clear c149
         try clear c151
         try clear c152
         try clear c153
         try clear c156
         try clear c157
         try clear c159
         try clear c161
         try clear c161b0
         try clear c161b1
         try clear c167
         try clear c168
         try clear c171
         try clear c172
         try clear c173
         try clear c175
         try clear c177
         try clear c177b0
         try clear c178
         try clear c179
         try clear c180
         try clear c182
         try clear c183
         try clear c185
         try clear c186
         try clear c187
         try clear c189
         try clear c190
         try clear c192
         try clear c193
         try clear c194
         try clear c195
         try clear c197
         try clear c198
         try clear hcz101_0
         try clear hcz101_1
         try clear hcz101_2
         try clear hcz101_3
         try clear hcz101_4
         try clear hcz101_5
         try clear hcz106_0
         try clear hcz106_1
         try clear hcz106_2
         try clear hcz106_3
         try clear hcz108_0
         try clear hcz108_1
         try clear hcz108_2
         try clear hcz108_3
         try clear hcz108_4
         try clear hcz112_0
         try clear hcz112_1
         try clear hcz112_2
         try clear hcz112_3
         try clear hcz112_4
         try clear hcz112_5
         try clear hcz113_0
         try clear hcz113_1
         try clear hcz113_2
         try clear hcz113_3
         try clear hcz113_4
         try clear hcz113_5
         try clear hcz121_0
         try clear hcz121_1
         try clear hcz121_2
         try clear hcz121_3
         try clear hcz121_4
         try clear hcz121_5
         try clear hcz126_0
         try clear hcz126_1
         try clear hcz126_2
         try clear hcz126_3
         try clear hcz128_0
         try clear hcz128_1
         try clear hcz128_2
         try clear hcz128_3
         try clear hcz128_4
         try clear hcz136_0
         try clear hcz136_1
         try clear hcz136_2
         try clear hcz136_3
         try clear hcz139_0
         try clear hcz139_1
         try clear hcz139_2
         try clear hcz139_3
         try clear hcz139_4
         try clear hcz147_0
         try clear hcz147_1
         try clear hcz147_2
         try clear hcz147_3
         try clear hcz150_0
         try clear hcz150_1
         try clear hcz150_2
         try clear hcz150_3
         try clear hcz150_4
         try clear hcz154_0
         try clear hcz154_1
         try clear hcz154_2
         try clear hcz154_3
         try clear hcz158_0
         try clear hcz158_1
         try clear hcz158_2
         try clear hcz158_3
         try clear hcz158_4
         try clear hcz158_5
         try clear hcz160_0
         try clear hcz160_1
         try clear hcz160_2
         try clear hcz160_3
         try clear hcz160_4
         try clear hcz160_5
         try clear hcz169_0
         try clear hcz169_1
         try clear hcz169_2
         try clear hcz169_3
         try clear hcz169_4
         try clear hcz169_5
         try clear hcz174_0
         try clear hcz174_1
         try clear hcz174_2
         try clear hcz174_3
         try clear hcz176_0
         try clear hcz176_1
         try clear hcz176_2
         try clear hcz176_3
         try clear hcz176_4
         try clear hcz181_0
         try clear hcz181_1
         try clear hcz181_2
         try clear hcz181_3
         try clear hcz181_4
         try clear hcz184_0
         try clear hcz184_1
         try clear hcz184_2
         try clear hcz184_3
         try clear hcz188_0
         try clear hcz188_1
         try clear hcz188_2
         try clear hcz188_3
         try clear hcz188_4
         try clear hcz191_0
         try clear hcz191_1
         try clear hcz191_2
         try clear hcz191_3
         try clear hcz196_0
         try clear hcz196_1
         try clear hcz196_2
         try clear hcz196_3
         try clear hcz196_4
         try clear hcz196_5
         try clear hcz199_0
         try clear hcz199_1
         try clear hcz199_2
         try clear hcz199_3
         try clear hcz199_4
         try clear hcz199_5
         try clear hcz74_0
         try clear hcz74_1
         try clear hcz74_2
         try clear hcz74_3
         try clear hcz74_4
         try clear hcz74_5
         try clear hcz75_0
         try clear hcz75_1
         try clear hcz75_2
         try clear hcz75_3
         try clear hcz75_4
         try clear hcz75_5
         try clear hcz82_0
         try clear hcz82_1
         try clear hcz82_2
         try clear hcz82_3
         try clear hcz82_4
         try clear hcz82_5
         try clear hcz87_0
         try clear hcz87_1
         try clear hcz87_2
         try clear hcz87_3
         try clear hcz89_0
         try clear hcz89_1
         try clear hcz89_2
         try clear hcz89_3
         try clear hcz89_4
         try clear hcz93_0
         try clear hcz93_1
         try clear hcz93_2
         try clear hcz93_3
         try clear hcz93_4
         try clear hcz93_5
         try clear hcz94_0
         try clear hcz94_1
         try clear hcz94_2
         try clear hcz94_3
         try clear hcz94_4
         try clear hcz94_5
         try clear hfz101_0
         try clear hfz101_1
         try clear hfz101_2
         try clear hfz101_3
         try clear hfz101_4
         try clear hfz101_5
         try clear hfz106_0
         try clear hfz106_1
         try clear hfz106_2
         try clear hfz106_3
         try clear hfz108_0
         try clear hfz108_1
         try clear hfz108_2
         try clear hfz108_3
         try clear hfz108_4
         try clear hfz112_0
         try clear hfz112_1
         try clear hfz112_2
         try clear hfz112_3
         try clear hfz112_4
         try clear hfz112_5
         try clear hfz113_0
         try clear hfz113_1
         try clear hfz113_2
         try clear hfz113_3
         try clear hfz113_4
         try clear hfz113_5
         try clear hfz121_0
         try clear hfz121_1
         try clear hfz121_2
         try clear hfz121_3
         try clear hfz121_4
         try clear hfz121_5
         try clear hfz126_0
         try clear hfz126_1
         try clear hfz126_2
         try clear hfz126_3
         try clear hfz128_0
         try clear hfz128_1
         try clear hfz128_2
         try clear hfz128_3
         try clear hfz128_4
         try clear hfz136_0
         try clear hfz136_1
         try clear hfz136_2
         try clear hfz136_3
         try clear hfz139_0
         try clear hfz139_1
         try clear hfz139_2
         try clear hfz139_3
         try clear hfz139_4
         try clear hfz147_0
         try clear hfz147_1
         try clear hfz147_2
         try clear hfz147_3
         try clear hfz150_0
         try clear hfz150_1
         try clear hfz150_2
         try clear hfz150_3
         try clear hfz150_4
         try clear hfz154_0
         try clear hfz154_1
         try clear hfz154_2
         try clear hfz154_3
         try clear hfz158_0
         try clear hfz158_1
         try clear hfz158_2
         try clear hfz158_3
         try clear hfz158_4
         try clear hfz158_5
         try clear hfz160_0
         try clear hfz160_1
         try clear hfz160_2
         try clear hfz160_3
         try clear hfz160_4
         try clear hfz160_5
         try clear hfz169_0
         try clear hfz169_1
         try clear hfz169_2
         try clear hfz169_3
         try clear hfz169_4
         try clear hfz169_5
         try clear hfz174_0
         try clear hfz174_1
         try clear hfz174_2
         try clear hfz174_3
         try clear hfz176_0
         try clear hfz176_1
         try clear hfz176_2
         try clear hfz176_3
         try clear hfz176_4
         try clear hfz181_0
         try clear hfz181_1
         try clear hfz181_2
         try clear hfz181_3
         try clear hfz181_4
         try clear hfz184_0
         try clear hfz184_1
         try clear hfz184_2
         try clear hfz184_3
         try clear hfz188_0
         try clear hfz188_1
         try clear hfz188_2
         try clear hfz188_3
         try clear hfz188_4
         try clear hfz191_0
         try clear hfz191_1
         try clear hfz191_2
         try clear hfz191_3
         try clear hfz196_0
         try clear hfz196_1
         try clear hfz196_2
         try clear hfz196_3
         try clear hfz196_4
         try clear hfz196_5
         try clear hfz199_0
         try clear hfz199_1
         try clear hfz199_2
         try clear hfz199_3
         try clear hfz199_4
         try clear hfz199_5
         try clear hfz74_0
         try clear hfz74_1
         try clear hfz74_2
         try clear hfz74_3
         try clear hfz74_4
         try clear hfz74_5
         try clear hfz75_0
         try clear hfz75_1
         try clear hfz75_2
         try clear hfz75_3
         try clear hfz75_4
         try clear hfz75_5
         try clear hfz82_0
         try clear hfz82_1
         try clear hfz82_2
         try clear hfz82_3
         try clear hfz82_4
         try clear hfz82_5
         try clear hfz87_0
         try clear hfz87_1
         try clear hfz87_2
         try clear hfz87_3
         try clear hfz89_0
         try clear hfz89_1
         try clear hfz89_2
         try clear hfz89_3
         try clear hfz89_4
         try clear hfz93_0
         try clear hfz93_1
         try clear hfz93_2
         try clear hfz93_3
         try clear hfz93_4
         try clear hfz93_5
         try clear hfz94_0
         try clear hfz94_1
         try clear hfz94_2
         try clear hfz94_3
         try clear hfz94_4
         try clear hfz94_5
         try clear hx142_0
         try clear hx142_1
         try clear p1
         try clear p14
         try clear p142
         try clear p2
         try clear p6
         try clear p64
         try clear q1
         try clear q14
         try clear q142
         obtain ⟨x8_2, x9_2, x10_2, rfl, rfl, HA, HK2, HO_8, HO_126005, HO_129003, BK125, BK126, BK127, BK128, HK, HB⟩ := hrel
         cases gk with
         | zero => exact absurd HA.out (by simp [ferruleref04_Step.l1])
         | succ k2 =>
          have H := HA.out
          clear HA
          simp only [ferruleref04_Step.l1] at H
          by_cases c200 : x10_2 < (l0_5.length : Int)
          ·rw [if_pos c200] at H
           have c200b0 : decide (x10_2 < (l0_5.length : Int)) = true := decide_eq_true c200
           clear c200
           have HC201 := am_ H
           clear H
           have hnb202 := NB128_125.out
           have hnc202 := NB125_128.out
           have hnb203 := NB128_126.out
           have hnc203 := NB126_128.out
           have hnb204 := NB128_127.out
           have hnc204 := NB127_128.out
           have hcz205_0 : wr.cell? ⟨gb128, 0, none⟩ = some (.int .u64 a0_2) := (blk_cell BK128.out 0).trans rfl
           have hcz205_1 : wr.cell? ⟨gb128, 1, none⟩ = some (.int .u64 a0_3) := (blk_cell BK128.out 1).trans rfl
           have hcz205_2 : wr.cell? ⟨gb128, 2, none⟩ = some (.string a0_4) := (blk_cell BK128.out 2).trans rfl
           have hcz205_3 : wr.cell? ⟨gb128, 3, none⟩ = some (.slice Ao163 l0_5.length co163) := (blk_cell BK128.out 3).trans rfl
           have hfz205_0 := blk_frozen BK128.out 0
           have hfz205_1 := blk_frozen BK128.out 1
           have hfz205_2 := blk_frozen BK128.out 2
           have hfz205_3 := blk_frozen BK128.out 3
           go_upto_region 26 with (fail)
           go_cut [125] (fun v125 wc => ∃ (kq : Nat) (x125_200 : Bool), v125 = .bool x125_200 ∧ Aside0 (ferruleref04_Step.j3 kq x8_2 x9_2 x10_2 (IntKind.u64.wrap ((IntKind.u64.wrap (a0_2 + (IntKind.u64.wrap (x10_2)))) + 1)) x125_200 a0_0 a0_1 a0_2 a0_3 a0_4 l0_5 a1_0 a1_1 a1_2 a1_3 a1_4 a0_2 a0_3 a0_4 l0_5 = some (r1, r2, r3, r4, r5, r6)) ∧ Aside0 (kq ≤ k2) ∧ Aside0 (Kd.R k75 75 wc w0.heap.size (fun k_ => (P0_5_ k_ ∨ w.heap.size ≤ k_) ∧ some k_ ≠ ((.slice Ao163 l0_5.length co163) : Value).ownBlock ∧ some k_ ≠ ((.slice Ao163 l0_5.length co163) : Value).ownBlock) u8 x8_2) ∧ Aside0 (Kd.R k75 75 wc w0.heap.size (fun k_ => (P0_5_ k_ ∨ w.heap.size ≤ k_) ∧ some k_ ≠ (u8 : Value).ownBlock) (.slice Ao163 l0_5.length co163) l0_5) ∧ Aside0 (Kd.R k75 75 wc w0.heap.size (fun k_ => (P0_5_ k_ ∨ w.heap.size ≤ k_) ∧ some k_ ≠ (u8 : Value).ownBlock) (.slice Ao163 l0_5.length co163) l0_5) ∧ Aside0 (wc.heap[gb125]? = some (.cells #[.int .u64 a0_0, .int .u64 a0_1, .int .u64 a0_2, .int .u64 a0_3, .string a0_4, (.slice Ao163 l0_5.length co163)] 30 (0, 0))) ∧ Aside0 (wc.heap[gb126]? = some (.cells #[.int .i64 a1_0, .int .u64 a1_1, .int .u64 a1_2, .int .u64 a1_3, .string a1_4] 39 (0, 0))) ∧ Aside0 (wc.heap[gb127]? = some (.cells #[.int .u64 0, .int .u64 0, .int .u64 0, .int .u64 0, .string (⟨#[]⟩ : ByteArray), (.slice none 0 0)] 30 (0, 0))) ∧ Aside0 (wc.heap[gb128]? = some (.cells #[.int .u64 a0_2, .int .u64 a0_3, .string a0_4, (.slice Ao163 l0_5.length co163)] 28 (0, 0))) ∧ Aside0 (Kept w wc (fun k_ => P0_5_ k_)) ∧ Aside0 (Below w0.heap.size w0 wc))
           case first =>
            have H := HC201.out
            clear HC201
            by_cases c206 : (IntKind.u64.wrap ((IntKind.u64.wrap (a0_2 + (IntKind.u64.wrap (x10_2)))) + 1)) = a1_1
            ·rw [if_pos c206] at H
             have c206b0 : ((IntKind.u64.wrap ((IntKind.u64.wrap (a0_2 + (IntKind.u64.wrap (x10_2)))) + 1)) == a1_1) = true := beq_iff_eq.mpr c206
             have c206b1 : ((IntKind.u64.wrap ((IntKind.u64.wrap (a0_2 + (IntKind.u64.wrap (x10_2)))) + 1)) != a1_1) = false := bne_eq_false_iff_eq.mpr c206
             clear c206
             (first | rw [c206b0] | (simp only [i64_w, i32_w]; rw [c206b0]) | skip)
             by_cases c207 : 0 ≤ x10_2
             ·rw [if_pos c207] at H
              have c207b0 : decide (0 ≤ x10_2) = true := decide_eq_true c207
              clear c207
              have H' := am_ H
              clear H
              try go_wp2
              have n0_ := am_ (Kd.R_drew HO_8.out)
              have n1_ := am_ (Kd.R_drew HO_126005.out)
              have n2_ := am_ (Kd.R_drew HO_129003.out)
              have n3_ := am_ (blk_drew BK125.out)
              have n4_ := am_ (blk_drew BK126.out)
              have n5_ := am_ (blk_drew BK127.out)
              have n6_ := am_ (blk_drew BK128.out)
              have n7_ := am_ (Kept.drew HK.out)
              have n8_ := am_ (below_drew1 HB.out)
              clear HO_8
              clear HO_126005
              clear HO_129003
              clear BK125
              clear BK126
              clear BK127
              clear BK128
              clear HK
              clear HB
              have HO_8 := n0_
              have HO_126005 := n1_
              have HO_129003 := n2_
              have BK125 := n3_
              have BK126 := n4_
              have BK127 := n5_
              have BK128 := n6_
              have HK := n7_
              have HB := n8_
              clear n0_ n1_ n2_ n3_ n4_ n5_ n6_ n7_ n8_
              have p149 : 0 ≤ (x10_2 : Int) := of_decide_eq_true (by first | (with_reducible assumption) | assumption)
              have q149 : x10_2 < (l0_5.length : Int) := of_decide_eq_true (by first | (with_reducible assumption) | assumption)
              obtain ⟨ad149, e149, hx149_0, hx149_1⟩ := at_T75 (Kd.R_reads' HO_129003.out).2.2 x10_2 p149 q149
              cases e149
              replace p149 := eq_true p149
              replace q149 := eq_true q149
              refine start_ (n := 15) (S := fun w' => w'.cell? ⟨gb126, 0, none⟩ = some (.int .i64 a1_0) ∧ w'.cell? ⟨gb126, 1, none⟩ = some (.int .u64 a1_1) ∧ w'.cell? ⟨gb126, 2, none⟩ = some (.int .u64 a1_2) ∧ w'.cell? ⟨gb126, 3, none⟩ = some (.int .u64 a1_3) ∧ w'.cell? ⟨gb126, 4, none⟩ = some (.string a1_4) ∧ w'.cell? ⟨gb128, 0, none⟩ = some (.int .u64 a0_2) ∧ w'.cell? ⟨gb128, 1, none⟩ = some (.int .u64 a0_3) ∧ w'.cell? ⟨gb128, 2, none⟩ = some (.string a0_4) ∧ w'.cell? ⟨gb128, 3, none⟩ = some (.slice (some ad149) l0_5.length co163) ∧ w'.cell? (ad149.add ((x10_2).toNat * 2)) = some (.int .u64 ((rd_T75 l0_5 x10_2).f0)) ∧ w'.cell? ⟨(ad149.add ((x10_2).toNat * 2)).block, (ad149.add ((x10_2).toNat * 2)).off + 1, none⟩ = some (.string ((rd_T75 l0_5 x10_2).f1))) (ds := []) bN0_ (by kernel_rfl) rfl rfl ⟨(blk_cell BK126.out 0).trans rfl, (blk_cell BK126.out 1).trans rfl, (blk_cell BK126.out 2).trans rfl, (blk_cell BK126.out 3).trans rfl, (blk_cell BK126.out 4).trans rfl, (blk_cell BK128.out 0).trans rfl, (blk_cell BK128.out 1).trans rfl, (blk_cell BK128.out 2).trans rfl, (blk_cell BK128.out 3).trans rfl, hx149_0, hx149_1⟩ (fun hHeld => ?_); refine with_tabW ferruleref04_Step.tab26 ferruleref04_Step.bits26 (fun HT_ HW_ => ?_)
              generalize wr.drew = w208 at HO_8 HO_126005 HO_129003 BK125 BK126 BK127 BK128 HK HB hx149_0 hx149_1 hHeld ⊢
              refine pure_ (i := 0) (N := some 111) (v := ?_) (a' := ?_) bN1_ rfl rfl (any_of HT_.out (by kernel_rfl)) (fun _ _ _ h => h) (Or.inl ⟨by rfl, ?_⟩) ?_ ?_; rotate_left; (intro w'; go_simp; with_reducible rfl); rotate_left; (simp only [Act.put, List.setIfInBounds_toArray, List.set_cons_zero, List.set_cons_succ, i64_w, i32_w]; rfl)
              refine pure_ (i := 1) (N := some 112) (v := ?_) (a' := ?_) bN2_ rfl rfl (any_of HT_.out (by kernel_rfl)) (fun _ _ _ h => h) (Or.inl ⟨by rfl, ?_⟩) ?_ ?_; rotate_left; (intro w'; go_simp; with_reducible rfl); rotate_left; (simp only [Act.put, List.setIfInBounds_toArray, List.set_cons_zero, List.set_cons_succ, i64_w, i32_w]; rfl)
              refine take_ (i := 2) (N := some 113) (v := ?_) (a' := ?_) bN3_ rfl rfl (take_ofW HT_.out HW_.out (by kernel_rfl)) (fun _ _ _ h => h) (Or.inl ⟨by rfl, ?_⟩) hHeld ?_ ?_; rotate_left; (rintro w' ⟨s0, s1, s2, s3, s4, s5, s6, s7, s8, s9, s10⟩; go_simp; with_reducible rfl); rotate_left; (simp only [Act.put, List.setIfInBounds_toArray, List.set_cons_zero, List.set_cons_succ, i64_w, i32_w]; rfl)
              refine pure_ (i := 3) (N := some 114) (v := ?_) (a' := ?_) bN4_ rfl rfl (any_of HT_.out (by kernel_rfl)) (fun _ _ _ h => h) (Or.inl ⟨by rfl, ?_⟩) ?_ ?_; rotate_left; (intro w'; go_simp; with_reducible rfl); rotate_left; (simp only [Act.put, List.setIfInBounds_toArray, List.set_cons_zero, List.set_cons_succ, i64_w, i32_w]; rfl)
              refine pure_ (i := 4) (N := some 115) (v := ?_) (a' := ?_) bN5_ rfl rfl (any_of HT_.out (by kernel_rfl)) (fun _ _ _ h => h) (Or.inl ⟨by rfl, ?_⟩) ?_ ?_; rotate_left; (intro w'; go_simp; with_reducible rfl); rotate_left; (simp only [Act.put, List.setIfInBounds_toArray, List.set_cons_zero, List.set_cons_succ, i64_w, i32_w]; rfl)
              refine pure_ (i := 5) (N := some 116) (v := ?_) (a' := ?_) bN6_ rfl rfl (any_of HT_.out (by kernel_rfl)) (fun _ _ _ h => h) (Or.inl ⟨by rfl, ?_⟩) ?_ ?_; rotate_left; (intro w'; go_simp; with_reducible rfl); rotate_left; (simp only [Act.put, List.setIfInBounds_toArray, List.set_cons_zero, List.set_cons_succ, i64_w, i32_w]; rfl)
              refine pure_ (i := 7) (N := some 118) (v := ?_) (a' := ?_) bN7_ rfl rfl (any_of HT_.out (by kernel_rfl)) (fun _ _ _ h => h) (Or.inl ⟨by rfl, ?_⟩) ?_ ?_; rotate_left; (intro w'; go_simp; with_reducible rfl); rotate_left; (simp only [Act.put, List.setIfInBounds_toArray, List.set_cons_zero, List.set_cons_succ, i64_w, i32_w]; rfl)
              refine pure_ (i := 11) (N := some 122) (v := ?_) (a' := ?_) bN8_ rfl rfl (any_of HT_.out (by kernel_rfl)) (fun _ _ _ h => h) (Or.inl ⟨by rfl, ?_⟩) ?_ ?_; rotate_left; (intro w'; go_simp; with_reducible rfl); rotate_left; (simp only [Act.put, List.setIfInBounds_toArray, List.set_cons_zero, List.set_cons_succ, i64_w, i32_w]; rfl)
              refine take_ (i := 6) (N := some 117) (v := ?_) (a' := ?_) bN9_ rfl rfl (take_ofW HT_.out HW_.out (by kernel_rfl)) (fun _ _ _ h => h) (Or.inl ⟨by rfl, ?_⟩) hHeld ?_ ?_; rotate_left; (rintro w' ⟨s0, s1, s2, s3, s4, s5, s6, s7, s8, s9, s10⟩; go_simp; with_reducible rfl); rotate_left; (simp only [Act.put, List.setIfInBounds_toArray, List.set_cons_zero, List.set_cons_succ, i64_w, i32_w]; rfl)
              refine pure_ (i := 8) (N := some 119) (v := ?_) (a' := ?_) bN10_ rfl rfl (any_of HT_.out (by kernel_rfl)) (fun _ _ _ h => h) (Or.inl ⟨by rfl, ?_⟩) ?_ ?_; rotate_left; (intro w'; go_simp; with_reducible rfl); rotate_left; (simp only [Act.put, List.setIfInBounds_toArray, List.set_cons_zero, List.set_cons_succ, i64_w, i32_w]; rfl)
              refine pure_ (i := 9) (N := some 120) (v := ?_) (a' := ?_) bN11_ rfl rfl (any_of HT_.out (by kernel_rfl)) (fun _ _ _ h => h) (Or.inl ⟨by rfl, ?_⟩) ?_ ?_; rotate_left; (intro w'; go_simp; with_reducible rfl); rotate_left; (simp only [Act.put, List.setIfInBounds_toArray, List.set_cons_zero, List.set_cons_succ, i64_w, i32_w]; rfl)
              refine take_ (i := 10) (N := some 121) (v := ?_) (a' := ?_) bN12_ rfl rfl (take_ofW HT_.out HW_.out (by kernel_rfl)) (fun _ _ _ h => h) (Or.inl ⟨by rfl, ?_⟩) hHeld ?_ ?_; rotate_left; (rintro w' ⟨s0, s1, s2, s3, s4, s5, s6, s7, s8, s9, s10⟩; go_simp; with_reducible rfl); rotate_left; (simp only [Act.put, List.setIfInBounds_toArray, List.set_cons_zero, List.set_cons_succ, i64_w, i32_w]; rfl)
              refine take_ (i := 12) (N := some 123) (v := ?_) (a' := ?_) bN13_ rfl rfl (take_ofW HT_.out HW_.out (by kernel_rfl)) (fun _ _ _ h => h) (Or.inl ⟨by rfl, ?_⟩) hHeld ?_ ?_; rotate_left; (rintro w' ⟨s0, s1, s2, s3, s4, s5, s6, s7, s8, s9, s10⟩; go_simp; with_reducible rfl); rotate_left; (simp only [Act.put, List.setIfInBounds_toArray, List.set_cons_zero, List.set_cons_succ, i64_w, i32_w]; rfl)
              refine pure_ (i := 13) (N := some 124) (v := ?_) (a' := ?_) bN14_ rfl rfl (any_of HT_.out (by kernel_rfl)) (fun _ _ _ h => h) (Or.inl ⟨by rfl, ?_⟩) ?_ ?_; rotate_left; (intro w'; go_simp; with_reducible rfl); rotate_left; (simp only [Act.put, List.setIfInBounds_toArray, List.set_cons_zero, List.set_cons_succ, i64_w, i32_w]; rfl)
              refine pure_ (i := 14) (N := some 125) (v := ?_) (a' := ?_) bN15_ rfl rfl (any_of HT_.out (by kernel_rfl)) (fun _ _ _ h => h) (Or.inl ⟨by rfl, ?_⟩) ?_ ?_; rotate_left; (intro w'; go_simp; with_reducible rfl); rotate_left; (simp only [Act.put, List.setIfInBounds_toArray, List.set_cons_zero, List.set_cons_succ, i64_w, i32_w]; rfl)
              refine done_ (done_of HT_.out (by kernel_rfl)) ?_
              try go_wp2
              go_meet
              case rel => exact ⟨_, ((((rd_T75 l0_5 x10_2).f0) == a1_2)), (by first | rfl | (simp; done) | (simp [*]; done)), H', ⟨by have := HJ161.out; have := HK2.out; first | omega | exact Nat.le_refl _⟩, ⟨rx_ HO_8⟩, ⟨rx_ HO_126005⟩, ⟨rx_ HO_129003⟩, ⟨bx_ BK125⟩, ⟨bx_ BK126⟩, ⟨bx_ BK127⟩, ⟨bx_ BK128⟩, ⟨kx_ HK⟩, ⟨hx_ HB⟩⟩
             ·rw [if_neg c207] at H
              exact absurd H (by simp)
            ·rw [if_neg c206] at H
             have c206b0 : ((IntKind.u64.wrap ((IntKind.u64.wrap (a0_2 + (IntKind.u64.wrap (x10_2)))) + 1)) == a1_1) = false := beq_eq_false_iff_ne.mpr c206
             have c206b1 : ((IntKind.u64.wrap ((IntKind.u64.wrap (a0_2 + (IntKind.u64.wrap (x10_2)))) + 1)) != a1_1) = true := bne_iff_ne.mpr c206
             (first | rw [c206b0] | (simp only [i64_w, i32_w]; rw [c206b0]) | skip)
             have H' := am_ H
             clear H
             try go_wp2
             have n0_ := am_ (Kd.R_drew HO_8.out)
             have n1_ := am_ (Kd.R_drew HO_126005.out)
             have n2_ := am_ (Kd.R_drew HO_129003.out)
             have n3_ := am_ (blk_drew BK125.out)
             have n4_ := am_ (blk_drew BK126.out)
             have n5_ := am_ (blk_drew BK127.out)
             have n6_ := am_ (blk_drew BK128.out)
             have n7_ := am_ (Kept.drew HK.out)
             have n8_ := am_ (below_drew1 HB.out)
             clear HO_8
             clear HO_126005
             clear HO_129003
             clear BK125
             clear BK126
             clear BK127
             clear BK128
             clear HK
             clear HB
             have HO_8 := n0_
             have HO_126005 := n1_
             have HO_129003 := n2_
             have BK125 := n3_
             have BK126 := n4_
             have BK127 := n5_
             have BK128 := n6_
             have HK := n7_
             have HB := n8_
             clear n0_ n1_ n2_ n3_ n4_ n5_ n6_ n7_ n8_
             refine start_ (n := 15) (S := fun w' => w'.cell? ⟨gb126, 0, none⟩ = some (.int .i64 a1_0) ∧ w'.cell? ⟨gb126, 1, none⟩ = some (.int .u64 a1_1) ∧ w'.cell? ⟨gb126, 2, none⟩ = some (.int .u64 a1_2) ∧ w'.cell? ⟨gb126, 3, none⟩ = some (.int .u64 a1_3) ∧ w'.cell? ⟨gb126, 4, none⟩ = some (.string a1_4)) (ds := []) bN0_ (by kernel_rfl) rfl rfl ⟨(blk_cell BK126.out 0).trans rfl, (blk_cell BK126.out 1).trans rfl, (blk_cell BK126.out 2).trans rfl, (blk_cell BK126.out 3).trans rfl, (blk_cell BK126.out 4).trans rfl⟩ (fun hHeld => ?_); refine with_tabW ferruleref04_Step.tab26 ferruleref04_Step.bits26 (fun HT_ HW_ => ?_)
             generalize wr.drew = w209 at HO_8 HO_126005 HO_129003 BK125 BK126 BK127 BK128 HK HB hHeld ⊢
             refine pure_ (i := 0) (N := some 111) (v := ?_) (a' := ?_) bN1_ rfl rfl (any_of HT_.out (by kernel_rfl)) (fun _ _ _ h => h) (Or.inl ⟨by rfl, ?_⟩) ?_ ?_; rotate_left; (intro w'; go_simp; with_reducible rfl); rotate_left; (simp only [Act.put, List.setIfInBounds_toArray, List.set_cons_zero, List.set_cons_succ, i64_w, i32_w]; rfl)
             refine pure_ (i := 1) (N := some 112) (v := ?_) (a' := ?_) bN2_ rfl rfl (any_of HT_.out (by kernel_rfl)) (fun _ _ _ h => h) (Or.inl ⟨by rfl, ?_⟩) ?_ ?_; rotate_left; (intro w'; go_simp; with_reducible rfl); rotate_left; (simp only [Act.put, List.setIfInBounds_toArray, List.set_cons_zero, List.set_cons_succ, i64_w, i32_w]; rfl)
             refine take_ (i := 2) (N := some 113) (v := ?_) (a' := ?_) bN3_ rfl rfl (take_ofW HT_.out HW_.out (by kernel_rfl)) (fun _ _ _ h => h) (Or.inl ⟨by rfl, ?_⟩) hHeld ?_ ?_; rotate_left; (rintro w' ⟨s0, s1, s2, s3, s4⟩; go_simp; with_reducible rfl); rotate_left; (simp only [Act.put, List.setIfInBounds_toArray, List.set_cons_zero, List.set_cons_succ, i64_w, i32_w]; rfl)
             refine pure_ (i := 3) (N := some 114) (v := ?_) (a' := ?_) bN4_ rfl rfl (any_of HT_.out (by kernel_rfl)) (fun _ _ _ h => h) (Or.inl ⟨by rfl, ?_⟩) ?_ ?_; rotate_left; (intro w'; go_simp; with_reducible rfl); rotate_left; (simp only [Act.put, List.setIfInBounds_toArray, List.set_cons_zero, List.set_cons_succ, i64_w, i32_w]; rfl)
             refine pure_ (i := 4) (N := some 115) (v := ?_) (a' := ?_) bN5_ rfl rfl (any_of HT_.out (by kernel_rfl)) (fun _ _ _ h => h) (Or.inl ⟨by rfl, ?_⟩) ?_ ?_; rotate_left; (intro w'; go_simp; with_reducible rfl); rotate_left; (simp only [Act.put, List.setIfInBounds_toArray, List.set_cons_zero, List.set_cons_succ, i64_w, i32_w]; rfl)
             refine pure_ (i := 5) (N := some 116) (v := undef) (a' := ?_) bN6_ rfl rfl (any_of HT_.out (by kernel_rfl)) (fun _ _ _ h => h) (Or.inr ⟨by rfl, rfl⟩) ?_ ?_; rotate_left; (simp only [Act.put, List.setIfInBounds_toArray, List.set_cons_zero, List.set_cons_succ, i64_w, i32_w]; rfl)
             refine pure_ (i := 6) (N := some 117) (v := undef) (a' := ?_) bN16_ rfl rfl (any_of HT_.out (by kernel_rfl)) (fun _ _ _ h => h) (Or.inr ⟨by rfl, rfl⟩) ?_ ?_; rotate_left; (simp only [Act.put, List.setIfInBounds_toArray, List.set_cons_zero, List.set_cons_succ, i64_w, i32_w]; rfl)
             refine pure_ (i := 7) (N := some 118) (v := undef) (a' := ?_) bN17_ rfl rfl (any_of HT_.out (by kernel_rfl)) (fun _ _ _ h => h) (Or.inr ⟨by rfl, rfl⟩) ?_ ?_; rotate_left; (simp only [Act.put, List.setIfInBounds_toArray, List.set_cons_zero, List.set_cons_succ, i64_w, i32_w]; rfl)
             refine pure_ (i := 8) (N := some 119) (v := undef) (a' := ?_) bN18_ rfl rfl (any_of HT_.out (by kernel_rfl)) (fun _ _ _ h => h) (Or.inr ⟨by rfl, rfl⟩) ?_ ?_; rotate_left; (simp only [Act.put, List.setIfInBounds_toArray, List.set_cons_zero, List.set_cons_succ, i64_w, i32_w]; rfl)
             refine pure_ (i := 9) (N := some 120) (v := undef) (a' := ?_) bN19_ rfl rfl (any_of HT_.out (by kernel_rfl)) (fun _ _ _ h => h) (Or.inr ⟨by rfl, rfl⟩) ?_ ?_; rotate_left; (simp only [Act.put, List.setIfInBounds_toArray, List.set_cons_zero, List.set_cons_succ, i64_w, i32_w]; rfl)
             refine pure_ (i := 10) (N := some 121) (v := undef) (a' := ?_) bN20_ rfl rfl (any_of HT_.out (by kernel_rfl)) (fun _ _ _ h => h) (Or.inr ⟨by rfl, rfl⟩) ?_ ?_; rotate_left; (simp only [Act.put, List.setIfInBounds_toArray, List.set_cons_zero, List.set_cons_succ, i64_w, i32_w]; rfl)
             refine pure_ (i := 11) (N := some 122) (v := undef) (a' := ?_) bN12_ rfl rfl (any_of HT_.out (by kernel_rfl)) (fun _ _ _ h => h) (Or.inr ⟨by rfl, rfl⟩) ?_ ?_; rotate_left; (simp only [Act.put, List.setIfInBounds_toArray, List.set_cons_zero, List.set_cons_succ, i64_w, i32_w]; rfl)
             refine pure_ (i := 12) (N := some 123) (v := undef) (a' := ?_) bN13_ rfl rfl (any_of HT_.out (by kernel_rfl)) (fun _ _ _ h => h) (Or.inr ⟨by rfl, rfl⟩) ?_ ?_; rotate_left; (simp only [Act.put, List.setIfInBounds_toArray, List.set_cons_zero, List.set_cons_succ, i64_w, i32_w]; rfl)
             refine pure_ (i := 13) (N := some 124) (v := undef) (a' := ?_) bN14_ rfl rfl (any_of HT_.out (by kernel_rfl)) (fun _ _ _ h => h) (Or.inr ⟨by rfl, rfl⟩) ?_ ?_; rotate_left; (simp only [Act.put, List.setIfInBounds_toArray, List.set_cons_zero, List.set_cons_succ, i64_w, i32_w]; rfl)
             refine pure_ (i := 14) (N := some 125) (v := ?_) (a' := ?_) bN15_ rfl rfl (any_of HT_.out (by kernel_rfl)) (fun _ _ _ h => h) (Or.inl ⟨by rfl, ?_⟩) ?_ ?_; rotate_left; (intro w'; go_simp; with_reducible rfl); rotate_left; (simp only [Act.put, List.setIfInBounds_toArray, List.set_cons_zero, List.set_cons_succ, i64_w, i32_w]; rfl)
             refine done_ (done_of HT_.out (by kernel_rfl)) ?_
             try go_wp2
             go_meet
             case rel => exact ⟨_, (false), (by first | rfl | (simp; done) | (simp [*]; done)), H', ⟨by have := HJ161.out; have := HK2.out; first | omega | exact Nat.le_refl _⟩, ⟨rx_ HO_8⟩, ⟨rx_ HO_126005⟩, ⟨rx_ HO_129003⟩, ⟨bx_ BK125⟩, ⟨bx_ BK126⟩, ⟨bx_ BK127⟩, ⟨bx_ BK128⟩, ⟨kx_ HK⟩, ⟨hx_ HB⟩⟩
           case rest =>
            clear HC201
            try clear p1
            try clear q1
            try clear hx1
            try clear c2
            try clear p2
            try clear p6
            try clear p14
            try clear q14
            try clear hx14
            try clear c20
            try clear p64
            try clear p142
            try clear q142
            try clear hx142
            try clear p149
            try clear q149
            try clear hx149
            try clear c200
            try clear c200b0
            try clear c202
            try clear c203
            try clear c204
            try clear c206
            try clear c206b0
            try clear c206b1
            try clear c207
            try clear c207b0
            try clear hcz158_1
            try clear hcz158_2
            try clear hcz158_3
            try clear hcz158_4
            try clear hcz158_5
            try clear hcz160_0
            try clear hcz160_1
            try clear hcz160_2
            try clear hcz160_3
            try clear hcz160_4
            try clear hcz160_5
            try clear hcz169_0
            try clear hcz169_1
            try clear hcz169_2
            try clear hcz169_3
            try clear hcz169_4
            try clear hcz169_5
            try clear hcz174_0
            try clear hcz174_1
            try clear hcz174_2
            try clear hcz174_3
            try clear hcz176_0
            try clear hcz176_1
            try clear hcz176_2
            try clear hcz176_3
            try clear hcz176_4
            try clear hcz181_0
            try clear hcz181_1
            try clear hcz181_2
            try clear hcz181_3
            try clear hcz181_4
            try clear hcz184_0
            try clear hcz184_1
            try clear hcz184_2
            try clear hcz184_3
            try clear hcz188_0
            try clear hcz188_1
            try clear hcz188_2
            try clear hcz188_3
            try clear hcz188_4
            try clear hcz191_0
            try clear hcz191_1
            try clear hcz191_2
            try clear hcz191_3
            try clear hcz196_0
            try clear hcz196_1
            try clear hcz196_2
            try clear hcz196_3
            try clear hcz196_4
            try clear hcz196_5
            try clear hcz199_0
            try clear hcz199_1
            try clear hcz199_2
            try clear hcz199_3
            try clear hcz199_4
            try clear hcz199_5
            try clear hcz205_0
            try clear hcz205_1
            try clear hcz205_2
            try clear hcz205_3
            try clear hcz74_0
            try clear hcz74_1
            try clear hcz74_2
            try clear hcz74_3
            try clear hcz74_4
            try clear hcz74_5
            try clear hcz75_0
            try clear hcz75_1
            try clear hcz75_2
            try clear hcz75_3
            try clear hcz75_4
            try clear hcz75_5
            try clear hcz82_0
            try clear hcz82_1
            try clear hcz82_2
            try clear hcz82_3
            try clear hcz82_4
            try clear hcz82_5
            try clear hcz87_0
            try clear hcz87_1
            try clear hcz87_2
            try clear hcz87_3
            try clear hcz89_0
            try clear hcz89_1
            try clear hcz89_2
            try clear hcz89_3
            try clear hcz89_4
            try clear hcz93_0
            try clear hcz93_1
            try clear hcz93_2
            try clear hcz93_3
            try clear hcz93_4
            try clear hcz93_5
            try clear hcz94_0
            try clear hcz94_1
            try clear hcz94_2
            try clear hcz94_3
            try clear hcz94_4
            try clear hcz94_5
            try clear hfz101_0
            try clear hfz101_1
            try clear hfz101_2
            try clear hfz101_3
            try clear hfz101_4
            try clear hfz101_5
            try clear hfz106_0
            try clear hfz106_1
            try clear hfz106_2
            try clear hfz106_3
            try clear hfz108_0
            try clear hfz108_1
            try clear hfz108_2
            try clear hfz108_3
            try clear hfz108_4
            try clear hfz112_0
            try clear hfz112_1
            try clear hfz112_2
            try clear hfz112_3
            try clear hfz112_4
            try clear hfz112_5
            try clear hfz113_0
            try clear hfz113_1
            try clear hfz113_2
            try clear hfz113_3
            try clear hfz113_4
            try clear hfz113_5
            try clear hfz121_0
            try clear hfz121_1
            try clear hfz121_2
            try clear hfz121_3
            try clear hfz121_4
            try clear hfz121_5
            try clear hfz126_0
            try clear hfz126_1
            try clear hfz126_2
            try clear hfz126_3
            try clear hfz128_0
            try clear hfz128_1
            try clear hfz128_2
            try clear hfz128_3
            try clear hfz128_4
            try clear hfz136_0
            try clear hfz136_1
            try clear hfz136_2
            try clear hfz136_3
            try clear hfz139_0
            try clear hfz139_1
            try clear hfz139_2
            try clear hfz139_3
            try clear hfz139_4
            try clear hfz147_0
            try clear hfz147_1
            try clear hfz147_2
            try clear hfz147_3
            try clear hfz150_0
            try clear hfz150_1
            try clear hfz150_2
            try clear hfz150_3
            try clear hfz150_4
            try clear hfz154_0
            try clear hfz154_1
            try clear hfz154_2
            try clear hfz154_3
            try clear hfz158_0
            try clear hfz158_1
            try clear hfz158_2
            try clear hfz158_3
            try clear hfz158_4
            try clear hfz158_5
            try clear hfz160_0
            try clear hfz160_1
            try clear hfz160_2
            try clear hfz160_3
            try clear hfz160_4
            try clear hfz160_5
            try clear hfz169_0
            try clear hfz169_1
            try clear hfz169_2
            try clear hfz169_3
            try clear hfz169_4
            try clear hfz169_5
            try clear hfz174_0
            try clear hfz174_1
            try clear hfz174_2
            try clear hfz174_3
            try clear hfz176_0
            try clear hfz176_1
            try clear hfz176_2
            try clear hfz176_3
            try clear hfz176_4
            try clear hfz181_0
            try clear hfz181_1
            try clear hfz181_2
            try clear hfz181_3
            try clear hfz181_4
            try clear hfz184_0
            try clear hfz184_1
            try clear hfz184_2
            try clear hfz184_3
            try clear hfz188_0
            try clear hfz188_1
            try clear hfz188_2
            try clear hfz188_3
            try clear hfz188_4
            try clear hfz191_0
            try clear hfz191_1
            try clear hfz191_2
            try clear hfz191_3
            try clear hfz196_0
            try clear hfz196_1
            try clear hfz196_2
            try clear hfz196_3
            try clear hfz196_4
            try clear hfz196_5
            try clear hfz199_0
            try clear hfz199_1
            try clear hfz199_2
            try clear hfz199_3
            try clear hfz199_4
            try clear hfz199_5
            try clear hfz205_0
            try clear hfz205_1
            try clear hfz205_2
            try clear hfz205_3
            try clear hfz74_0
            try clear hfz74_1
            try clear hfz74_2
            try clear hfz74_3
            try clear hfz74_4
            try clear hfz74_5
            try clear hfz75_0
            try clear hfz75_1
            try clear hfz75_2
            try clear hfz75_3
            try clear hfz75_4
            try clear hfz75_5
            try clear hfz82_0
            try clear hfz82_1
            try clear hfz82_2
            try clear hfz82_3
            try clear hfz82_4
            try clear hfz82_5
            try clear hfz87_0
            try clear hfz87_1
            try clear hfz87_2
            try clear hfz87_3
            try clear hfz89_0
            try clear hfz89_1
            try clear hfz89_2
            try clear hfz89_3
            try clear hfz89_4
            try clear hfz93_0
            try clear hfz93_1
            try clear hfz93_2
            try clear hfz93_3
            try clear hfz93_4
            try clear hfz93_5
            try clear hfz94_0
            try clear hfz94_1
            try clear hfz94_2
            try clear hfz94_3
            try clear hfz94_4
            try clear hfz94_5
            try clear hx142_0
            try clear hx142_1
            try clear hx149_0
            try clear hx149_1
            try clear p1
            try clear p14
            try clear p142
            try clear p149
            try clear p2
            try clear p6
            try clear p64
            try clear q1
            try clear q14
            try clear q142
            try clear q149
            obtain ⟨kq, x125_200, rfl, HA, HJ200, HO_8, HO_126005, HO_129003, BK125, BK126, BK127, BK128, HK, HB⟩ := hcut
            cases kq with
            | zero => exact absurd HA.out (by simp [ferruleref04_Step.j3])
            | succ kj200 =>
             have H := HA.out
             clear HA
             simp only [ferruleref04_Step.j3] at H
             by_cases c210 : x125_200 = true
             ·subst c210
              have H1 : (ferruleref04_Step.l1 kj200 x8_2 true (wrap64 (x10_2 + 1)) a0_0 a0_1 a0_2 a0_3 a0_4 l0_5 a1_0 a1_1 a1_2 a1_3 a1_4 a0_2 a0_3 a0_4 l0_5) = some (r1, r2, r3, r4, r5, r6) := by rw [if_pos rfl] at H; exact H
              clear H
              have H := H1
              clear H1
              have H' := am_ H
              clear H
              go_wp2
              go_roundg kj200
              case measure => have := HJ161.out; have := HK2.out; have := HJ200.out; omega
              case rel => exact ⟨(x8_2), (true), (wrap64 (x10_2 + 1)), (by first | rfl | (simp; done) | (simp [*]; done)), (by first | rfl | (simp; done) | (simp [*]; done)), H', ⟨by have := HJ161.out; have := HK2.out; have := HJ200.out; omega⟩, ⟨rx_ HO_8⟩, ⟨rx_ HO_126005⟩, ⟨rx_ HO_129003⟩, ⟨bx_ BK125⟩, ⟨bx_ BK126⟩, ⟨bx_ BK127⟩, ⟨bx_ BK128⟩, ⟨kx_ HK⟩, ⟨hx_ HB⟩⟩
             ·replace c210 := Bool.eq_false_iff.mpr c210
              subst c210
              have H1 : (if (IntKind.u64.wrap ((IntKind.u64.wrap (a0_2 + (IntKind.u64.wrap (x10_2)))) + 1)) > a1_1 then (if x9_2 = true then (if 0 ≤ x10_2 then (if x10_2 < (l0_5.length : Int) then ((some (([(⟨(rd_T75 l0_5 x10_2).f0, (rd_T75 l0_5 x10_2).f1⟩ : S75)] : List (S75)) : List (S75))).bind fun y151 => (if x8_2.length + y151.length < 5864062014805 then (ferruleref04_Step.l1 kj200 (x8_2 ++ y151) x9_2 (wrap64 (x10_2 + 1)) a0_0 a0_1 a0_2 a0_3 a0_4 l0_5 a1_0 a1_1 a1_2 a1_3 a1_4 a0_2 a0_3 a0_4 l0_5) else (none))) else (none)) else (none)) else (ferruleref04_Step.l1 kj200 x8_2 x9_2 (wrap64 (x10_2 + 1)) a0_0 a0_1 a0_2 a0_3 a0_4 l0_5 a1_0 a1_1 a1_2 a1_3 a1_4 a0_2 a0_3 a0_4 l0_5)) else (ferruleref04_Step.l1 kj200 x8_2 x9_2 (wrap64 (x10_2 + 1)) a0_0 a0_1 a0_2 a0_3 a0_4 l0_5 a1_0 a1_1 a1_2 a1_3 a1_4 a0_2 a0_3 a0_4 l0_5)) = some (r1, r2, r3, r4, r5, r6) := by rw [if_neg (show ¬ (false = true) by decide)] at H; exact H
              clear H
              have H := H1
              clear H1
              by_cases c211 : (IntKind.u64.wrap ((IntKind.u64.wrap (a0_2 + (IntKind.u64.wrap (x10_2)))) + 1)) > a1_1
              ·rw [if_pos c211] at H
               have c211b0 : decide (a1_1 < (IntKind.u64.wrap ((IntKind.u64.wrap (a0_2 + (IntKind.u64.wrap (x10_2)))) + 1))) = true := decide_eq_true c211
               clear c211
               by_cases c212 : x9_2 = true
               ·subst c212
                have H1 : (if 0 ≤ x10_2 then (if x10_2 < (l0_5.length : Int) then ((some (([(⟨(rd_T75 l0_5 x10_2).f0, (rd_T75 l0_5 x10_2).f1⟩ : S75)] : List (S75)) : List (S75))).bind fun y151 => (if x8_2.length + y151.length < 5864062014805 then (ferruleref04_Step.l1 kj200 (x8_2 ++ y151) true (wrap64 (x10_2 + 1)) a0_0 a0_1 a0_2 a0_3 a0_4 l0_5 a1_0 a1_1 a1_2 a1_3 a1_4 a0_2 a0_3 a0_4 l0_5) else (none))) else (none)) else (none)) = some (r1, r2, r3, r4, r5, r6) := by rw [if_pos rfl] at H; exact H
                clear H
                have H := H1
                clear H1
                by_cases c213 : 0 ≤ x10_2
                ·rw [if_pos c213] at H
                 have c213b0 : decide (0 ≤ x10_2) = true := decide_eq_true c213
                 clear c213
                 by_cases c214 : x10_2 < (l0_5.length : Int)
                 ·rw [if_pos c214] at H
                  have c214b0 : decide (x10_2 < (l0_5.length : Int)) = true := decide_eq_true c214
                  clear c214
                  obtain ⟨y151, hy151⟩ : ∃ y_ : List (S75), y_ = (([(⟨(rd_T75 l0_5 x10_2).f0, (rd_T75 l0_5 x10_2).f1⟩ : S75)] : List (S75))) := ⟨_, rfl⟩
                  replace H : (if x8_2.length + y151.length < 5864062014805 then (ferruleref04_Step.l1 kj200 (x8_2 ++ y151) true (wrap64 (x10_2 + 1)) a0_0 a0_1 a0_2 a0_3 a0_4 l0_5 a1_0 a1_1 a1_2 a1_3 a1_4 a0_2 a0_3 a0_4 l0_5) else (none)) = some (r1, r2, r3, r4, r5, r6) := by first | (rw [hy151]; with_reducible exact H) | (have H2_ := (Option.bind_some _ _).symm.trans H; rw [hy151]; with_reducible exact H2_) | (have H2_ := (Option.bind_some _ _).symm.trans H; with_reducible exact H2_) | with_reducible exact H | (rw [hy151]; exact H) | exact H
                  have Ny151 := am_ hy151
                  clear hy151
                  by_cases c215 : x8_2.length + y151.length < 5864062014805
                  ·rw [if_pos c215] at H
                   have LMc215 := am_ c215
                   clear c215
                   obtain ⟨y154, hy154⟩ : ∃ y_ : List (S75), y_ = (x8_2 ++ y151) := ⟨_, rfl⟩
                   replace H : (ferruleref04_Step.l1 kj200 y154 true (wrap64 (x10_2 + 1)) a0_0 a0_1 a0_2 a0_3 a0_4 l0_5 a1_0 a1_1 a1_2 a1_3 a1_4 a0_2 a0_3 a0_4 l0_5) = some (r1, r2, r3, r4, r5, r6) := by first | (rw [hy154]; with_reducible exact H) | (have H2_ := (Option.bind_some _ _).symm.trans H; rw [hy154]; with_reducible exact H2_) | (have H2_ := (Option.bind_some _ _).symm.trans H; with_reducible exact H2_) | with_reducible exact H | (rw [hy154]; exact H) | exact H
                   have Ny154 := am_ hy154
                   clear hy154
                   have H' := am_ H
                   clear H
                   have hnb216 := NB126_125.out
                   have hnc216 := NB125_126.out
                   have hnb217 := NB126_127.out
                   have hnc217 := NB127_126.out
                   have hnb218 := NB126_128.out
                   have hnc218 := NB128_126.out
                   have hcz219_0 : wc.cell? ⟨gb126, 0, none⟩ = some (.int .i64 a1_0) := (blk_cell BK126.out 0).trans rfl
                   have hcz219_1 : wc.cell? ⟨gb126, 1, none⟩ = some (.int .u64 a1_1) := (blk_cell BK126.out 1).trans rfl
                   have hcz219_2 : wc.cell? ⟨gb126, 2, none⟩ = some (.int .u64 a1_2) := (blk_cell BK126.out 2).trans rfl
                   have hcz219_3 : wc.cell? ⟨gb126, 3, none⟩ = some (.int .u64 a1_3) := (blk_cell BK126.out 3).trans rfl
                   have hcz219_4 : wc.cell? ⟨gb126, 4, none⟩ = some (.string a1_4) := (blk_cell BK126.out 4).trans rfl
                   have hfz219_0 := blk_frozen BK126.out 0
                   have hfz219_1 := blk_frozen BK126.out 1
                   have hfz219_2 := blk_frozen BK126.out 2
                   have hfz219_3 := blk_frozen BK126.out 3
                   have hfz219_4 := blk_frozen BK126.out 4
                   have hnb220 := NB128_125.out
                   have hnc220 := NB125_128.out
                   have hnb221 := NB128_127.out
                   have hnc221 := NB127_128.out
                   have hcz222_0 : wc.cell? ⟨gb128, 0, none⟩ = some (.int .u64 a0_2) := (blk_cell BK128.out 0).trans rfl
                   have hcz222_1 : wc.cell? ⟨gb128, 1, none⟩ = some (.int .u64 a0_3) := (blk_cell BK128.out 1).trans rfl
                   have hcz222_2 : wc.cell? ⟨gb128, 2, none⟩ = some (.string a0_4) := (blk_cell BK128.out 2).trans rfl
                   have hcz222_3 : wc.cell? ⟨gb128, 3, none⟩ = some (.slice Ao163 l0_5.length co163) := (blk_cell BK128.out 3).trans rfl
                   have hfz222_0 := blk_frozen BK128.out 0
                   have hfz222_1 := blk_frozen BK128.out 1
                   have hfz222_2 := blk_frozen BK128.out 2
                   have hfz222_3 := blk_frozen BK128.out 3
                   have p150 : 0 ≤ (x10_2 : Int) := of_decide_eq_true (by first | (with_reducible assumption) | assumption)
                   have q150 : x10_2 < (l0_5.length : Int) := of_decide_eq_true (by first | (with_reducible assumption) | assumption)
                   obtain ⟨ad150, e150, hx150_0, hx150_1⟩ := at_T75 (Kd.R_reads' HO_129003.out).2.2 x10_2 p150 q150
                   cases e150
                   replace p150 := eq_true p150
                   replace q150 := eq_true q150
                   go_wp2_with (first | ((with_reducible refine gate_dst (N := 139) rfl ?_); (try (refine gate_guard (by rfl) ?_; dsimp only)); refine Kd.R_lit k75 _ 75 ?hg (N := 139) ?hd (xs := ([(⟨(rd_T75 l0_5 x10_2).f0, (rd_T75 l0_5 x10_2).f1⟩ : S75)] : List (S75))) (inner := [.int .u64 ((rd_T75 l0_5 x10_2).f0), .string ((rd_T75 l0_5 x10_2).f1)]) (ok := fun _ => True) (okp := fun _ => True) ?hr ?hp (fun _ hk => hk) trivial (Below.refl _ _) (Nat.le_refl _) (by simp) ?_; (case hd => rfl); (case hg => rfl); (case hr => first | (go_simp; done) | (go_simp; rfl)); (case hp => exact (Reps.c2 (show Kd.M k75 _ _ _ (⟨(rd_T75 l0_5 x10_2).f0, (rd_T75 l0_5 x10_2).f1⟩ : S75) [.int .u64 ((rd_T75 l0_5 x10_2).f0), .string ((rd_T75 l0_5 x10_2).f1)] from (k75_mkM _ _ _ (⟨(rd_T75 l0_5 x10_2).f0, (rd_T75 l0_5 x10_2).f1⟩ : S75) )) (Reps.none _ _))); intro v152 w223 ho224 hb hg_ hnew_; clear hg_ hnew_; (first | rw [← Ny151.out] at ho224 | (simp only [Int.reduceToNat] at ho224; rw [← Ny151.out] at ho224)); have n0_ := am_ (Kd.R_elder' (rx_ HO_8) (Kd.R_base ho224) hb); have n1_ := am_ (Kd.R_elder' (rx_ HO_126005) (Kd.R_base ho224) hb); have n2_ := am_ (Kd.R_elder' (rx_ HO_129003) (Kd.R_base ho224) hb); have n3_ := am_ (Kd.R_lower (Kd.R_new' (Kd.R_new' (Kd.R_new' (Kd.R_newM (M := fun k_ => (P0_5_ k_ ∨ w.heap.size ≤ k_)) ho224 (by first | exact HK.out.1 | exact (show Kept w _ (fun k_ => P0_5_ k_) from kx_ HK).1) (fun k_ h_ => .inr h_)) (Kd.R_lt (rx_ HO_8))) (Kd.R_lt (rx_ HO_126005))) (Kd.R_lt (rx_ HO_129003))) (below_size (hx_ HB))); have n4_ := am_ (bb_ BK125 hb); have n5_ := am_ (bb_ BK126 hb); have n6_ := am_ (bb_ BK127 hb); have n7_ := am_ (bb_ BK128 hb); have n8_ := am_ (Kept.below (S := (fun k_ => P0_5_ k_)) (kx_ HK) hb); have n9_ := am_ (below_step (hy_ HB) hb); clear HO_8 HO_126005 HO_129003 BK125 BK126 BK127 BK128 HK HB; have HO_8 := n0_; have HO_126005 := n1_; have HO_129003 := n2_; have HO153 := n3_; have BK125 := n4_; have BK126 := n5_; have BK127 := n6_; have BK128 := n7_; have HK := n8_; have HB := n9_; clear n0_ n1_ n2_ n3_ n4_ n5_ n6_ n7_ n8_ n9_; clear hb ho224; obtain ⟨Ao226, co226, eo226⟩ := Kd.R_slice HO153.out; subst eo226) | ((with_reducible refine gate_builtin (b := .append) (xs := #[.tmp 133, .tmp 139]) rfl ?_); (try (refine gate_guard (by rfl) ?_; dsimp only)); at_builtin; refine Kd.R_append_rows k75 (w0 := w0) w0.heap.size rfl (.tmp 133) (.tmp 139) 26 75 (.agg #[(.int .u64 0), (.string ⟨#[]⟩)]) 24 rfl Try.underlying26 info75 rfl (by decide) (by omega) u8 x8_2 y151 _ _ _ (fun k_ => (P0_5_ k_ ∨ w.heap.size ≤ k_) ∧ some k_ ≠ (.slice (some ad150) l0_5.length co163 : Value).ownBlock ∧ some k_ ≠ (.slice (some ad150) l0_5.length co163 : Value).ownBlock ∧ some k_ ≠ (.slice Ao226 y151.length co226 : Value).ownBlock) (fun _ => False) rfl rfl ?aO ?aR (fun _ _ h => h) (fun _ h => h.elim) ?aF ?aB ?aS ?aL ?_; (case aR => repeat (first | exact (Kd.R_reads' HO153.out).2.2 | (with_reducible refine Kd.C_alloc ?_ _) | (with_reducible refine Kd.C_drewN ?_ _) | (with_reducible refine Kd.C_drew ?_))); (case aB => exact (hx_ HB)); (case aF => exact (fun k_ hk => ⟨(.inr (Nat.le_trans (by first | exact HK.out.1 | exact (show Kept w _ (fun k_ => P0_5_ k_) from kx_ HK).1) hk)), Kd.fresh' (Kd.R_lt (rx_ HO_126005)) k_ hk, Kd.fresh' (Kd.R_lt (rx_ HO_129003)) k_ hk, Kd.fresh' (Kd.R_lt (rx_ HO153)) k_ hk⟩)); (case aO => exact (by (with_reducible repeat (first | apply Kd.R_alloc | apply Kd.R_drewN | apply Kd.R_drew)); exact Kd.R_mono HO_8.out (fun _ hk => ⟨hk.1.1, ⟨hk.1.2.1, ⟨hk.1.2.2, hk.2⟩⟩⟩))); (case aS => exact (below_size (hx_ HB))); (case aL => have := LMc215.out; omega); intro v155 w225 ho hb hg hat; rw [← Ny154.out] at ho; have n0_ := am_ (Kd.R_after (ok := (fun k_ => (P0_5_ k_ ∨ w.heap.size ≤ k_) ∧ some k_ ≠ (.slice Ao226 y151.length co226 : Value).ownBlock)) (by (with_reducible repeat (first | apply Kd.R_alloc | apply Kd.R_drewN | apply Kd.R_drew)); exact Kd.R_mono HO_126005.out (fun _ hk => ⟨⟨hk.1.1, hk.2⟩, hk.1.2⟩)) hg hat); have n1_ := am_ (Kd.R_after (ok := (fun k_ => (P0_5_ k_ ∨ w.heap.size ≤ k_) ∧ some k_ ≠ (.slice Ao226 y151.length co226 : Value).ownBlock)) (by (with_reducible repeat (first | apply Kd.R_alloc | apply Kd.R_drewN | apply Kd.R_drew)); exact Kd.R_mono HO_129003.out (fun _ hk => ⟨⟨hk.1.1, hk.2⟩, hk.1.2⟩)) hg hat); have n2_ := am_ (blk_grown (g := gb125) (o := .cells #[.int .u64 a0_0, .int .u64 a0_1, .int .u64 a0_2, .int .u64 a0_3, .string a0_4, .slice (some ad150) l0_5.length co163] 30 (0, 0)) (bx_ BK125) hg (Kd.R_ne HO_8.out BK125.out (by decide))); have n3_ := am_ (blk_grown (g := gb126) (o := .cells #[.int .i64 a1_0, .int .u64 a1_1, .int .u64 a1_2, .int .u64 a1_3, .string a1_4] 39 (0, 0)) (bx_ BK126) hg (Kd.R_ne HO_8.out BK126.out (by decide))); have n4_ := am_ (blk_grown (g := gb127) (o := .cells #[.int .u64 0, .int .u64 0, .int .u64 0, .int .u64 0, .string (⟨#[]⟩ : ByteArray), .slice none 0 0] 30 (0, 0)) (bx_ BK127) hg (Kd.R_ne HO_8.out BK127.out (by decide))); have n5_ := am_ (blk_grown (g := gb128) (o := .cells #[.int .u64 a0_2, .int .u64 a0_3, .string a0_4, .slice (some ad150) l0_5.length co163] 28 (0, 0)) (bx_ BK128) hg (Kd.R_ne HO_8.out BK128.out (by decide))); have n6_ := am_ (Kd.R_after (ok := (fun k_ => (P0_5_ k_ ∨ w.heap.size ≤ k_) ∧ some k_ ≠ (.slice (some ad150) l0_5.length co163 : Value).ownBlock ∧ some k_ ≠ (.slice (some ad150) l0_5.length co163 : Value).ownBlock)) (by (with_reducible repeat (first | apply Kd.R_alloc | apply Kd.R_drewN | apply Kd.R_drew)); exact Kd.R_mono HO153.out (fun _ hk => ⟨⟨hk.1.1.1.1, ⟨hk.1.2, hk.2⟩⟩, hk.1.1.2⟩)) hg hat); have n7_ := am_ (hb); have n8_ := am_ (Kept.of_grown (S := (fun k_ => P0_5_ k_)) hg (kx_ HK) (fun k_ e_ => (HO_8.out.1 k_ e_).1.1)); have n9_ := am_ (ho); clear HO_126005 HO_129003 BK125 BK126 BK127 BK128 HO153 HB HK HO_8; have HO_126005 := n0_; have HO_129003 := n1_; have BK125 := n2_; have BK126 := n3_; have BK127 := n4_; have BK128 := n5_; have HO153 := n6_; have HB := n7_; have HK := n8_; have HO156 := n9_; clear n0_ n1_ n2_ n3_ n4_ n5_ n6_ n7_ n8_ n9_; clear ho hb hg hat))
                   go_roundg kj200
                   case measure => have := HJ161.out; have := HK2.out; have := HJ200.out; omega
                   case rel => exact ⟨(y154), (true), (wrap64 (x10_2 + 1)), (by first | rfl | (simp; done) | (simp [*]; done)), (by first | rfl | (simp; done) | (simp [*]; done)), H', ⟨by have := HJ161.out; have := HK2.out; have := HJ200.out; omega⟩, ⟨by (with_reducible repeat (first | apply Kd.R_alloc | apply Kd.R_drewN | apply Kd.R_drew)); exact Kd.R_mono HO156.out (fun _ hk => ⟨hk.1, ⟨hk.2.1, hk.2.2.1⟩⟩)⟩, ⟨by (with_reducible repeat (first | apply Kd.R_alloc | apply Kd.R_drewN | apply Kd.R_drew)); exact Kd.R_mono HO_126005.out (fun _ hk => ⟨hk.1.1, hk.2⟩)⟩, ⟨by (with_reducible repeat (first | apply Kd.R_alloc | apply Kd.R_drewN | apply Kd.R_drew)); exact Kd.R_mono HO_129003.out (fun _ hk => ⟨hk.1.1, hk.2⟩)⟩, ⟨bx_ BK125⟩, ⟨bx_ BK126⟩, ⟨bx_ BK127⟩, ⟨bx_ BK128⟩, ⟨kx_ HK⟩, ⟨hx_ HB⟩⟩
                  ·rw [if_neg c215] at H
                   exact absurd H (by simp)
                 ·rw [if_neg c214] at H
                  exact absurd H (by simp)
                ·rw [if_neg c213] at H
                 exact absurd H (by simp)
               ·replace c212 := Bool.eq_false_iff.mpr c212
                subst c212
                have H1 : (ferruleref04_Step.l1 kj200 x8_2 false (wrap64 (x10_2 + 1)) a0_0 a0_1 a0_2 a0_3 a0_4 l0_5 a1_0 a1_1 a1_2 a1_3 a1_4 a0_2 a0_3 a0_4 l0_5) = some (r1, r2, r3, r4, r5, r6) := by rw [if_neg (show ¬ (false = true) by decide)] at H; exact H
                clear H
                have H := H1
                clear H1
                have H' := am_ H
                clear H
                have hnb227 := NB126_125.out
                have hnc227 := NB125_126.out
                have hnb228 := NB126_127.out
                have hnc228 := NB127_126.out
                have hnb229 := NB126_128.out
                have hnc229 := NB128_126.out
                have hcz230_0 : wc.cell? ⟨gb126, 0, none⟩ = some (.int .i64 a1_0) := (blk_cell BK126.out 0).trans rfl
                have hcz230_1 : wc.cell? ⟨gb126, 1, none⟩ = some (.int .u64 a1_1) := (blk_cell BK126.out 1).trans rfl
                have hcz230_2 : wc.cell? ⟨gb126, 2, none⟩ = some (.int .u64 a1_2) := (blk_cell BK126.out 2).trans rfl
                have hcz230_3 : wc.cell? ⟨gb126, 3, none⟩ = some (.int .u64 a1_3) := (blk_cell BK126.out 3).trans rfl
                have hcz230_4 : wc.cell? ⟨gb126, 4, none⟩ = some (.string a1_4) := (blk_cell BK126.out 4).trans rfl
                have hfz230_0 := blk_frozen BK126.out 0
                have hfz230_1 := blk_frozen BK126.out 1
                have hfz230_2 := blk_frozen BK126.out 2
                have hfz230_3 := blk_frozen BK126.out 3
                have hfz230_4 := blk_frozen BK126.out 4
                go_wp2
                go_roundg kj200
                case measure => have := HJ161.out; have := HK2.out; have := HJ200.out; omega
                case rel => exact ⟨(x8_2), (false), (wrap64 (x10_2 + 1)), (by first | rfl | (simp; done) | (simp [*]; done)), (by first | rfl | (simp; done) | (simp [*]; done)), H', ⟨by have := HJ161.out; have := HK2.out; have := HJ200.out; omega⟩, ⟨rx_ HO_8⟩, ⟨rx_ HO_126005⟩, ⟨rx_ HO_129003⟩, ⟨bx_ BK125⟩, ⟨bx_ BK126⟩, ⟨bx_ BK127⟩, ⟨bx_ BK128⟩, ⟨kx_ HK⟩, ⟨hx_ HB⟩⟩
              ·rw [if_neg c211] at H
               have c211b0 : decide (a1_1 < (IntKind.u64.wrap ((IntKind.u64.wrap (a0_2 + (IntKind.u64.wrap (x10_2)))) + 1))) = false := decide_eq_false c211
               clear c211
               have H' := am_ H
               clear H
               have hnb231 := NB126_125.out
               have hnc231 := NB125_126.out
               have hnb232 := NB126_127.out
               have hnc232 := NB127_126.out
               have hnb233 := NB126_128.out
               have hnc233 := NB128_126.out
               have hcz234_0 : wc.cell? ⟨gb126, 0, none⟩ = some (.int .i64 a1_0) := (blk_cell BK126.out 0).trans rfl
               have hcz234_1 : wc.cell? ⟨gb126, 1, none⟩ = some (.int .u64 a1_1) := (blk_cell BK126.out 1).trans rfl
               have hcz234_2 : wc.cell? ⟨gb126, 2, none⟩ = some (.int .u64 a1_2) := (blk_cell BK126.out 2).trans rfl
               have hcz234_3 : wc.cell? ⟨gb126, 3, none⟩ = some (.int .u64 a1_3) := (blk_cell BK126.out 3).trans rfl
               have hcz234_4 : wc.cell? ⟨gb126, 4, none⟩ = some (.string a1_4) := (blk_cell BK126.out 4).trans rfl
               have hfz234_0 := blk_frozen BK126.out 0
               have hfz234_1 := blk_frozen BK126.out 1
               have hfz234_2 := blk_frozen BK126.out 2
               have hfz234_3 := blk_frozen BK126.out 3
               have hfz234_4 := blk_frozen BK126.out 4
               go_wp2
               go_roundg kj200
               case measure => have := HJ161.out; have := HK2.out; have := HJ200.out; omega
               case rel => exact ⟨(x8_2), (x9_2), (wrap64 (x10_2 + 1)), (by first | rfl | (simp; done) | (simp [*]; done)), (by first | rfl | (simp; done) | (simp [*]; done)), H', ⟨by have := HJ161.out; have := HK2.out; have := HJ200.out; omega⟩, ⟨rx_ HO_8⟩, ⟨rx_ HO_126005⟩, ⟨rx_ HO_129003⟩, ⟨bx_ BK125⟩, ⟨bx_ BK126⟩, ⟨bx_ BK127⟩, ⟨bx_ BK128⟩, ⟨kx_ HK⟩, ⟨hx_ HB⟩⟩
          ·rw [if_neg c200] at H
           have c200b0 : decide (x10_2 < (l0_5.length : Int)) = false := decide_eq_false c200
           clear c200
           simp only [Option.some.injEq, Prod.mk.injEq] at H
           obtain ⟨rfl, rfl, rfl, rfl, rfl, rfl⟩ := H
           have hnb235 := NB128_125.out
           have hnc235 := NB125_128.out
           have hnb236 := NB128_126.out
           have hnc236 := NB126_128.out
           have hnb237 := NB128_127.out
           have hnc237 := NB127_128.out
           have hcz238_0 : wr.cell? ⟨gb128, 0, none⟩ = some (.int .u64 a0_2) := (blk_cell BK128.out 0).trans rfl
           have hcz238_1 : wr.cell? ⟨gb128, 1, none⟩ = some (.int .u64 a0_3) := (blk_cell BK128.out 1).trans rfl
           have hcz238_2 : wr.cell? ⟨gb128, 2, none⟩ = some (.string a0_4) := (blk_cell BK128.out 2).trans rfl
           have hcz238_3 : wr.cell? ⟨gb128, 3, none⟩ = some (.slice Ao163 l0_5.length co163) := (blk_cell BK128.out 3).trans rfl
           have hfz238_0 := blk_frozen BK128.out 0
           have hfz238_1 := blk_frozen BK128.out 1
           have hfz238_2 := blk_frozen BK128.out 2
           have hfz238_3 := blk_frozen BK128.out 3
           have hnb239 := NB126_125.out
           have hnc239 := NB125_126.out
           have hnb240 := NB126_127.out
           have hnc240 := NB127_126.out
           have hcz241_0 : wr.cell? ⟨gb126, 0, none⟩ = some (.int .i64 a1_0) := (blk_cell BK126.out 0).trans rfl
           have hcz241_1 : wr.cell? ⟨gb126, 1, none⟩ = some (.int .u64 a1_1) := (blk_cell BK126.out 1).trans rfl
           have hcz241_2 : wr.cell? ⟨gb126, 2, none⟩ = some (.int .u64 a1_2) := (blk_cell BK126.out 2).trans rfl
           have hcz241_3 : wr.cell? ⟨gb126, 3, none⟩ = some (.int .u64 a1_3) := (blk_cell BK126.out 3).trans rfl
           have hcz241_4 : wr.cell? ⟨gb126, 4, none⟩ = some (.string a1_4) := (blk_cell BK126.out 4).trans rfl
           have hfz241_0 := blk_frozen BK126.out 0
           have hfz241_1 := blk_frozen BK126.out 1
           have hfz241_2 := blk_frozen BK126.out 2
           have hfz241_3 := blk_frozen BK126.out 3
           have hfz241_4 := blk_frozen BK126.out 4
           obtain ⟨Ao242, co242, eo242⟩ := Kd.R_slice HO_8.out
           subst eo242
           have hnb243 := NB125_127.out
           have hnc243 := NB127_125.out
           have hcz244_0 : wr.cell? ⟨gb125, 0, none⟩ = some (.int .u64 a0_0) := (blk_cell BK125.out 0).trans rfl
           have hcz244_1 : wr.cell? ⟨gb125, 1, none⟩ = some (.int .u64 a0_1) := (blk_cell BK125.out 1).trans rfl
           have hcz244_2 : wr.cell? ⟨gb125, 2, none⟩ = some (.int .u64 a0_2) := (blk_cell BK125.out 2).trans rfl
           have hcz244_3 : wr.cell? ⟨gb125, 3, none⟩ = some (.int .u64 a0_3) := (blk_cell BK125.out 3).trans rfl
           have hcz244_4 : wr.cell? ⟨gb125, 4, none⟩ = some (.string a0_4) := (blk_cell BK125.out 4).trans rfl
           have hcz244_5 : wr.cell? ⟨gb125, 5, none⟩ = some (.slice Ao163 l0_5.length co163) := (blk_cell BK125.out 5).trans rfl
           have hfz244_0 := blk_frozen BK125.out 0
           have hfz244_1 := blk_frozen BK125.out 1
           have hfz244_2 := blk_frozen BK125.out 2
           have hfz244_3 := blk_frozen BK125.out 3
           have hfz244_4 := blk_frozen BK125.out 4
           have hfz244_5 := blk_frozen BK125.out 5
           have hcz245_0 : wr.cell? ⟨gb127, 0, none⟩ = some (.int .u64 0) := (blk_cell BK127.out 0).trans rfl
           have hcz245_1 : wr.cell? ⟨gb127, 1, none⟩ = some (.int .u64 0) := (blk_cell BK127.out 1).trans rfl
           have hcz245_2 : wr.cell? ⟨gb127, 2, none⟩ = some (.int .u64 0) := (blk_cell BK127.out 2).trans rfl
           have hcz245_3 : wr.cell? ⟨gb127, 3, none⟩ = some (.int .u64 0) := (blk_cell BK127.out 3).trans rfl
           have hcz245_4 : wr.cell? ⟨gb127, 4, none⟩ = some (.string (⟨#[]⟩ : ByteArray)) := (blk_cell BK127.out 4).trans rfl
           have hcz245_5 : wr.cell? ⟨gb127, 5, none⟩ = some (.slice none 0 0) := (blk_cell BK127.out 5).trans rfl
           have hfz245_0 := blk_frozen BK127.out 0
           have hfz245_1 := blk_frozen BK127.out 1
           have hfz245_2 := blk_frozen BK127.out 2
           have hfz245_3 := blk_frozen BK127.out 3
           have hfz245_4 := blk_frozen BK127.out 4
           have hfz245_5 := blk_frozen BK127.out 5
           go_wp2
           refine bodyPost_ret (results_cell_row rfl _ _ gb127 30 #[.int .u64 a0_0, .int .u64 a0_1, .int .u64 a1_1, .int .u64 a1_2, .string a1_4, .slice Ao242 x8_2.length co242] (0, 0) _ rfl (by (with_reducible repeat (first | refine blk_drewN ?_ _ | refine blk_drew ?_ | refine blk_alloc ?_ _)); refine blk_put (cs := #[.int .u64 a0_0, .int .u64 a0_1, .int .u64 a1_1, .int .u64 a1_2, .string a1_4, .slice none 0 0]) ?_ 5 _ rfl; (with_reducible repeat (first | refine blk_drewN ?_ _ | refine blk_drew ?_ | refine blk_alloc ?_ _)); refine blk_put (cs := #[.int .u64 a0_0, .int .u64 a0_1, .int .u64 a1_1, .int .u64 a1_2, .string (⟨#[]⟩ : ByteArray), .slice none 0 0]) ?_ 4 _ rfl; (with_reducible repeat (first | refine blk_drewN ?_ _ | refine blk_drew ?_ | refine blk_alloc ?_ _)); refine blk_put (cs := #[.int .u64 a0_0, .int .u64 a0_1, .int .u64 a1_1, .int .u64 0, .string (⟨#[]⟩ : ByteArray), .slice none 0 0]) ?_ 3 _ rfl; (with_reducible repeat (first | refine blk_drewN ?_ _ | refine blk_drew ?_ | refine blk_alloc ?_ _)); refine blk_put (cs := #[.int .u64 a0_0, .int .u64 a0_1, .int .u64 0, .int .u64 0, .string (⟨#[]⟩ : ByteArray), .slice none 0 0]) ?_ 2 _ rfl; (with_reducible repeat (first | refine blk_drewN ?_ _ | refine blk_drew ?_ | refine blk_alloc ?_ _)); refine blk_put (cs := #[.int .u64 a0_0, .int .u64 0, .int .u64 0, .int .u64 0, .string (⟨#[]⟩ : ByteArray), .slice none 0 0]) ?_ 1 _ rfl; (with_reducible repeat (first | refine blk_drewN ?_ _ | refine blk_drew ?_ | refine blk_alloc ?_ _)); refine blk_put (cs := #[.int .u64 0, .int .u64 0, .int .u64 0, .int .u64 0, .string (⟨#[]⟩ : ByteArray), .slice none 0 0]) ?_ 0 _ rfl; (with_reducible repeat (first | refine blk_drewN ?_ _ | refine blk_drew ?_ | refine blk_alloc ?_ _)); refine blk_far ?_ NB127_125.out _; (with_reducible repeat (first | refine blk_drewN ?_ _ | refine blk_drew ?_ | refine blk_alloc ?_ _)); refine blk_far ?_ NB127_125.out _; (with_reducible repeat (first | refine blk_drewN ?_ _ | refine blk_drew ?_ | refine blk_alloc ?_ _)); refine blk_far ?_ NB127_125.out _; (with_reducible repeat (first | refine blk_drewN ?_ _ | refine blk_drew ?_ | refine blk_alloc ?_ _)); refine blk_far ?_ NB127_125.out _; (with_reducible repeat (first | refine blk_drewN ?_ _ | refine blk_drew ?_ | refine blk_alloc ?_ _)); exact BK127.out) Try.underlying30 rfl (by kernel_rfl)) rfl ?_
           exact ⟨_, by first | rfl | (simp [errW_none, errW_some] <;> rfl) | (simp [*, errW_none, errW_some] <;> rfl), by (with_reducible repeat (first | apply Kd.R_alloc | apply Kd.R_drewN | apply Kd.R_drew)); exact Kd.R_mono (Kd.R_far (p := ⟨gb127, 5, none⟩) (Kd.R_far (p := ⟨gb127, 4, none⟩) (Kd.R_far (p := ⟨gb127, 3, none⟩) (Kd.R_far (p := ⟨gb127, 2, none⟩) (Kd.R_far (p := ⟨gb127, 1, none⟩) (Kd.R_far (p := ⟨gb127, 0, none⟩) (Kd.R_far (p := ⟨gb125, 5, none⟩) (Kd.R_far (p := ⟨gb125, 4, none⟩) (Kd.R_far (p := ⟨gb125, 3, none⟩) (Kd.R_far (p := ⟨gb125, 2, none⟩) (Kd.R_types (Kd.R_types HO_8.out BK125.out (by decide)) BK127.out (by decide)) (fun _ hk => hk.1.2) (.int .u64 a1_1)) (fun _ hk => hk.1.2) (.int .u64 a1_2)) (fun _ hk => hk.1.2) (.string a1_4)) (fun _ hk => hk.1.2) (.slice Ao242 x8_2.length co242)) (fun _ hk => hk.2) (.int .u64 a0_0)) (fun _ hk => hk.2) (.int .u64 a0_1)) (fun _ hk => hk.2) (.int .u64 a1_1)) (fun _ hk => hk.2) (.int .u64 a1_2)) (fun _ hk => hk.2) (.string a1_4)) (fun _ hk => hk.2) (.slice Ao242 x8_2.length co242)) (fun _ hk => hk.1.1.1), hx_ HB, kx_ HK⟩
    ·exact absurd hk4 c161
theorem ferruleref04_Step.calls (k : Nat) (a0_0 : Int) (a0_1 : Int) (a0_2 : Int) (a0_3 : Int) (a0_4 : ByteArray) (P0_5_ : Nat → Prop) (u9000_ : Value) (l0_5 : List (S75)) (a1_0 : Int) (a1_1 : Int) (a1_2 : Int) (a1_3 : Int) (a1_4 : ByteArray) (r1 : Int) (r2 : Int) (r3 : Int) (r4 : Int) (r5 : ByteArray) (r6 : List (S75)) (w0 w : World) (hB : Below w0.heap.size w0 w) (ho0_5 : Kd.R k75 75 w w0.heap.size P0_5_ u9000_ l0_5) (h : ferruleref04_Step.f k a0_0 a0_1 a0_2 a0_3 a0_4 l0_5 a1_0 a1_1 a1_2 a1_3 a1_4 = some (r1, r2, r3, r4, r5, r6)) :
  Calls Try.prog 44 #[.agg #[.int .u64 a0_0, .int .u64 a0_1, .int .u64 a0_2, .int .u64 a0_3, .string a0_4, u9000_], .agg #[.int .i64 a1_0, .int .u64 a1_1, .int .u64 a1_2, .int .u64 a1_3, .string a1_4]] w fun e w' => ∃ v5_ : Value, e = .returned (.agg #[.int .u64 r1, .int .u64 r2, .int .u64 r3, .int .u64 r4, .string r5, v5_]) ∧ Kd.R k75 75 w' w0.heap.size (fun k_ => (P0_5_ k_ ∨ w.heap.size ≤ k_)) v5_ r6 ∧ Below w0.heap.size w0 w' ∧ Kept w w' (fun k_ => P0_5_ k_) := by
 by_cases hk4 : a1_0 = 4
 ·exact ferruleref04_Step.calls_c k a0_0 a0_1 a0_2 a0_3 a0_4 P0_5_ u9000_ l0_5 a1_0 a1_1 a1_2 a1_3 a1_4 r1 r2 r3 r4 r5 r6 w0 w hB ho0_5 hk4 h
 ·by_cases hk2 : a1_0 = 2
  ·exact ferruleref04_Step.calls_b k a0_0 a0_1 a0_2 a0_3 a0_4 P0_5_ u9000_ l0_5 a1_0 a1_1 a1_2 a1_3 a1_4 r1 r2 r3 r4 r5 r6 w0 w hB ho0_5 hk2 h
  ·exact ferruleref04_Step.calls_a k a0_0 a0_1 a0_2 a0_3 a0_4 P0_5_ u9000_ l0_5 a1_0 a1_1 a1_2 a1_3 a1_4 r1 r2 r3 r4 r5 r6 w0 w hB ho0_5 hk2 hk4 h
end Go.Proofs.Ytfjhlcbpogihmaa.Pr
