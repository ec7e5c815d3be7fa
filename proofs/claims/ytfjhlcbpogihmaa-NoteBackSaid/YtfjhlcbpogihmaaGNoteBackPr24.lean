/- What the program's functions compute, and that they compute it: printed out of the translation by a program of this session's (px.py, over the kit's printer). Conditions: none. -/
import Derived.Test.YtfjhlcbpogihmaaGNoteBackPr0
import Derived.Test.YtfjhlcbpogihmaaGNoteBackPr8
namespace Go.Proofs.Ytfjhlcbpogihmaa.Pr
open Go.RowKit Go.Proofs.YtfjhlcbpogihmaaW.PrintWords Go.Proofs.YtfjhlcbpogihmaaW.PrintLast Go.Proofs.YtfjhlcbpogihmaaW.PrintMore
attribute [local go_sem] max2_int min2_int max_two min_two max_three min_three max_four min_four
set_option linter.unusedVariables false
set_option linter.unusedSimpArgs false
/-! ### ferruleref04_May: function 25 -/
mutual
def ferruleref04_May.j0 : Nat → Bool → Int → Int → Int → Int → ByteArray → List (S75) → Int → Int → ByteArray → List (S75) → Option (Bool)
  | 0, _, _, _, _, _, _, _, _, _, _, _ => none
  | k + 1, x44, x305000, x305001, x305002, x305003, x305004, x305005, x306000, x306001, x306002, x306003 => if x44 = true then (some false) else (if x306000 = 0 then (if x306001 > 0 then (ferruleref04_May.j1 k true x305000 x305001 x305002 x305003 x305004 x305005 x306000 x306001 x306002 x306003) else (ferruleref04_May.j1 k (decide ((x306002.size : Int) > 0)) x305000 x305001 x305002 x305003 x305004 x305005 x306000 x306001 x306002 x306003)) else (ferruleref04_May.j1 k false x305000 x305001 x305002 x305003 x305004 x305005 x306000 x306001 x306002 x306003))
def ferruleref04_May.j1 : Nat → Bool → Int → Int → Int → Int → ByteArray → List (S75) → Int → Int → ByteArray → List (S75) → Option (Bool)
  | 0, _, _, _, _, _, _, _, _, _, _, _ => none
  | k + 1, x63, x305000, x305001, x305002, x305003, x305004, x305005, x306000, x306001, x306002, x306003 => if x63 = true then (some false) else (ferruleref04_May.l0 k 0 x305000 x305001 x305002 x305003 x305004 x305005 x306000 x306001 x306002 x306003)
def ferruleref04_May.l0 : Nat → Int → Int → Int → Int → Int → ByteArray → List (S75) → Int → Int → ByteArray → List (S75) → Option (Bool)
  | 0, _, _, _, _, _, _, _, _, _, _, _ => none
  | k + 1, x4, x305000, x305001, x305002, x305003, x305004, x305005, x306000, x306001, x306002, x306003 => if x4 < (x306003.length : Int) then (if 0 ≤ x4 then (if ((rd_T75 x306003 x4).f0) > x305000 then (some false) else (if ((rd_T75 x306003 x4).f0) < x306001 then (some false) else (if x4 > 0 then (if 0 ≤ (wrap64 (x4 - 1)) then (if (wrap64 (x4 - 1)) < (x306003.length : Int) then (if ((rd_T75 x306003 x4).f0) < ((rd_T75 x306003 (wrap64 (x4 - 1))).f0) then (some false) else (if (((rd_T75 x306003 x4).f1).size : Int) > 4096 then (some false) else (ferruleref04_May.l0 k (wrap64 (x4 + 1)) x305000 x305001 x305002 x305003 x305004 x305005 x306000 x306001 x306002 x306003))) else (none)) else (none)) else (if (((rd_T75 x306003 x4).f1).size : Int) > 4096 then (some false) else (ferruleref04_May.l0 k (wrap64 (x4 + 1)) x305000 x305001 x305002 x305003 x305004 x305005 x306000 x306001 x306002 x306003))))) else (none)) else (some true)
end
def ferruleref04_May.f (k : Nat) (a0_0 : Int) (a0_1 : Int) (a0_2 : Int) (a0_3 : Int) (a0_4 : ByteArray) (l0_5 : List (S75)) : Option (Bool) := if a0_0 > 4611686018427387903 then (ferruleref04_May.j0 k true a0_0 a0_1 a0_2 a0_3 a0_4 l0_5 a0_2 a0_3 a0_4 l0_5) else (if a0_1 > 4611686018427387903 then (ferruleref04_May.j0 k true a0_0 a0_1 a0_2 a0_3 a0_4 l0_5 a0_2 a0_3 a0_4 l0_5) else (if a0_2 > 1099511627776 then (ferruleref04_May.j0 k true a0_0 a0_1 a0_2 a0_3 a0_4 l0_5 a0_2 a0_3 a0_4 l0_5) else (if (l0_5.length : Int) > 1024 then (ferruleref04_May.j0 k true a0_0 a0_1 a0_2 a0_3 a0_4 l0_5 a0_2 a0_3 a0_4 l0_5) else ((ferruleref04_Last.f a0_2 a0_3 a0_4 l0_5).bind fun t306 => (if t306 > 1099511627776 then (ferruleref04_May.j0 k true a0_0 a0_1 a0_2 a0_3 a0_4 l0_5 a0_2 a0_3 a0_4 l0_5) else (if (a0_4.size : Int) > 4096 then (ferruleref04_May.j0 k true a0_0 a0_1 a0_2 a0_3 a0_4 l0_5 a0_2 a0_3 a0_4 l0_5) else (ferruleref04_May.j0 k (decide (a0_3 > a0_0)) a0_0 a0_1 a0_2 a0_3 a0_4 l0_5 a0_2 a0_3 a0_4 l0_5)))))))
namespace Sh24
theorem am_ {p : Prop} (h : p) : Aside0 p := ⟨h⟩
theorem bx_ {Q P : Prop} (b : Aside0 Q) (h : Q → P := by intro hq_; (with_reducible repeat (first | refine blk_drewN ?_ _ | refine blk_drew ?_ | refine blk_alloc ?_ _)); exact hq_) : P := h b.out
theorem hx_ {Q P : Prop} (b : Aside0 Q) (h : Q → P := by intro hq_; repeat (first | (with_reducible first | exact hq_ | apply below_alloc | apply pw_below_drewN | apply below_drew1 | refine below_set ?_ (Aside0.out (by assumption))) | exact hq_)) : P := h b.out
end Sh24
open Sh24
set_option maxHeartbeats 8000000 in
set_option maxRecDepth 100000 in
theorem ferruleref04_May.calls (k : Nat) (a0_0 : Int) (a0_1 : Int) (a0_2 : Int) (a0_3 : Int) (a0_4 : ByteArray) (A0_5 : Option Addr) (c0_5 : Nat) (l0_5 : List (S75)) (r : Bool) (w : World) (hr0_5 : Kd.C k75 w A0_5 l0_5.length l0_5) (hc0_5 : l0_5.length ≤ c0_5) (h : ferruleref04_May.f k a0_0 a0_1 a0_2 a0_3 a0_4 l0_5 = some r) :
  Calls Try.prog 25 #[.agg #[.int .u64 a0_0, .int .u64 a0_1, .int .u64 a0_2, .int .u64 a0_3, .string a0_4, .slice A0_5 l0_5.length c0_5]] w fun e w' => e = .returned (.bool r) ∧ Below w.heap.size w w' := by
 have hu30 := Try.underlying30
 have hu28 := Try.underlying28
 have hu75 := Try.underlying75
 have HR0_5 := am_ hr0_5
 have HC0_5 := am_ hc0_5
 clear hr0_5 hc0_5
 have HB := am_ (Below.refl w.heap.size w)
 have H : (if a0_0 > 4611686018427387903 then (ferruleref04_May.j0 k true a0_0 a0_1 a0_2 a0_3 a0_4 l0_5 a0_2 a0_3 a0_4 l0_5) else (if a0_1 > 4611686018427387903 then (ferruleref04_May.j0 k true a0_0 a0_1 a0_2 a0_3 a0_4 l0_5 a0_2 a0_3 a0_4 l0_5) else (if a0_2 > 1099511627776 then (ferruleref04_May.j0 k true a0_0 a0_1 a0_2 a0_3 a0_4 l0_5 a0_2 a0_3 a0_4 l0_5) else (if (l0_5.length : Int) > 1024 then (ferruleref04_May.j0 k true a0_0 a0_1 a0_2 a0_3 a0_4 l0_5 a0_2 a0_3 a0_4 l0_5) else ((ferruleref04_Last.f a0_2 a0_3 a0_4 l0_5).bind fun t306 => (if t306 > 1099511627776 then (ferruleref04_May.j0 k true a0_0 a0_1 a0_2 a0_3 a0_4 l0_5 a0_2 a0_3 a0_4 l0_5) else (if (a0_4.size : Int) > 4096 then (ferruleref04_May.j0 k true a0_0 a0_1 a0_2 a0_3 a0_4 l0_5 a0_2 a0_3 a0_4 l0_5) else (ferruleref04_May.j0 k (decide (a0_3 > a0_0)) a0_0 a0_1 a0_2 a0_3 a0_4 l0_5 a0_2 a0_3 a0_4 l0_5)))))))) = some r := h
 clear h
 have HC2 := am_ H
 clear H
 go_enter Try.func25, Try.ntmps25
 go_upto_region 2 with (first | ((with_reducible refine gate_dst (N := 1) rfl ?_); (try (refine gate_guard (by rfl) ?_; dsimp only)); refine box_event ?hg (N := 1) ?hd (cs := #[.int .u64 a0_0, .int .u64 a0_1, .int .u64 a0_2, .int .u64 a0_3, .string a0_4, .slice A0_5 l0_5.length c0_5]) (t := 30) ?hr ?_; (case hd => rfl); (case hg => rfl); (case hr => first | (go_simp; done) | (go_simp; rfl)); intro gb304 hg w3 hbox hb; have n0_ := am_ (below_step (by repeat (first | (with_reducible first | exact HB.out | apply below_alloc | apply pw_below_drewN | apply below_drew1) | exact HB.out | exact Below.refl _ _)) hb); have n1_ := am_ (hbox); have n2_ := am_ ((by rw [hg]; exact (below_size (hx_ HB)) : w.heap.size ≤ gb304)); have n3_ := am_ ((by rw [hg]; exact (below_size (hx_ HB)) : w.heap.size ≤ gb304)); clear HB; have HB := n0_; have BK304 := n1_; have GW304 := n2_; have GE304 := n3_; clear n0_ n1_ n2_ n3_; clear hb hbox hg; have hcz4_0 : w3.cell? ⟨gb304, 0, none⟩ = some (.int .u64 a0_0) := (blk_cell BK304.out 0).trans rfl; have hcz4_1 : w3.cell? ⟨gb304, 1, none⟩ = some (.int .u64 a0_1) := (blk_cell BK304.out 1).trans rfl; have hcz4_2 : w3.cell? ⟨gb304, 2, none⟩ = some (.int .u64 a0_2) := (blk_cell BK304.out 2).trans rfl; have hcz4_3 : w3.cell? ⟨gb304, 3, none⟩ = some (.int .u64 a0_3) := (blk_cell BK304.out 3).trans rfl; have hcz4_4 : w3.cell? ⟨gb304, 4, none⟩ = some (.string a0_4) := (blk_cell BK304.out 4).trans rfl; have hcz4_5 : w3.cell? ⟨gb304, 5, none⟩ = some (.slice A0_5 l0_5.length c0_5) := (blk_cell BK304.out 5).trans rfl; have hfz4_0 := blk_frozen BK304.out 0; have hfz4_1 := blk_frozen BK304.out 1; have hfz4_2 := blk_frozen BK304.out 2; have hfz4_3 := blk_frozen BK304.out 3; have hfz4_4 := blk_frozen BK304.out 4; have hfz4_5 := blk_frozen BK304.out 5) | ((with_reducible refine gate_dst (N := 3) rfl ?_); (try (refine gate_guard (by rfl) ?_; dsimp only)); refine box_event ?hg (N := 3) ?hd (cs := #[.int .u64 0, .int .u64 0, .string (⟨#[]⟩ : ByteArray), .slice none 0 0]) (t := 28) ?hr ?_; (case hd => rfl); (case hg => rfl); (case hr => first | (go_simp; done) | (go_simp; rfl)); intro gb305 hg w5 hbox hb; have n0_ := am_ (blk_below (g := gb304) (o := .cells #[.int .u64 a0_0, .int .u64 a0_1, .int .u64 a0_2, .int .u64 a0_3, .string a0_4, .slice A0_5 l0_5.length c0_5] 30 (0, 0)) (bx_ BK304) hb); have n1_ := am_ (below_step (by repeat (first | (with_reducible first | exact HB.out | apply below_alloc | apply pw_below_drewN | apply below_drew1 | refine below_set ?_ GE304.out) | exact HB.out | exact Below.refl _ _)) hb); have n2_ := am_ (hbox); have n3_ := am_ ((by rw [hg]; exact (below_size (hx_ HB)) : w.heap.size ≤ gb305)); have n4_ := am_ ((by rw [hg]; exact (below_size (hx_ HB)) : w.heap.size ≤ gb305)); have n5_ := am_ ((by rw [hg]; exact Nat.ne_of_lt (blk_lt (g := gb304) (o := .cells #[.int .u64 a0_0, .int .u64 a0_1, .int .u64 a0_2, .int .u64 a0_3, .string a0_4, .slice A0_5 l0_5.length c0_5] 30 (0, 0)) (bx_ BK304)) : gb304 ≠ gb305)); have n6_ := am_ ((by rw [hg]; exact Nat.ne_of_gt (blk_lt (g := gb304) (o := .cells #[.int .u64 a0_0, .int .u64 a0_1, .int .u64 a0_2, .int .u64 a0_3, .string a0_4, .slice A0_5 l0_5.length c0_5] 30 (0, 0)) (bx_ BK304)) : gb305 ≠ gb304)); clear BK304; clear HB; have BK304 := n0_; have HB := n1_; have BK305 := n2_; have GW305 := n3_; have GE305 := n4_; have NB304_305 := n5_; have NB305_304 := n6_; clear n0_ n1_ n2_ n3_ n4_ n5_ n6_; clear hb hbox hg; have hnb6 := NB305_304.out; have hnc6 := NB304_305.out; have hcz7_0 : w5.cell? ⟨gb305, 0, none⟩ = some (.int .u64 0) := (blk_cell BK305.out 0).trans rfl; have hcz7_1 : w5.cell? ⟨gb305, 1, none⟩ = some (.int .u64 0) := (blk_cell BK305.out 1).trans rfl; have hcz7_2 : w5.cell? ⟨gb305, 2, none⟩ = some (.string (⟨#[]⟩ : ByteArray)) := (blk_cell BK305.out 2).trans rfl; have hcz7_3 : w5.cell? ⟨gb305, 3, none⟩ = some (.slice none 0 0) := (blk_cell BK305.out 3).trans rfl; have hfz7_0 := blk_frozen BK305.out 0; have hfz7_1 := blk_frozen BK305.out 1; have hfz7_2 := blk_frozen BK305.out 2; have hfz7_3 := blk_frozen BK305.out 3))
 repeat (go_quiet (first | ((with_reducible refine gate_dst (N := 1) rfl ?_); (try (refine gate_guard (by rfl) ?_; dsimp only)); refine box_event ?hg (N := 1) ?hd (cs := #[.int .u64 a0_0, .int .u64 a0_1, .int .u64 a0_2, .int .u64 a0_3, .string a0_4, .slice A0_5 l0_5.length c0_5]) (t := 30) ?hr ?_; (case hd => rfl); (case hg => rfl); (case hr => first | (go_simp; done) | (go_simp; rfl)); intro gb304 hg w3 hbox hb; have n0_ := am_ (below_step (by repeat (first | (with_reducible first | exact HB.out | apply below_alloc | apply pw_below_drewN | apply below_drew1) | exact HB.out | exact Below.refl _ _)) hb); have n1_ := am_ (hbox); have n2_ := am_ ((by rw [hg]; exact (below_size (hx_ HB)) : w.heap.size ≤ gb304)); have n3_ := am_ ((by rw [hg]; exact (below_size (hx_ HB)) : w.heap.size ≤ gb304)); clear HB; have HB := n0_; have BK304 := n1_; have GW304 := n2_; have GE304 := n3_; clear n0_ n1_ n2_ n3_; clear hb hbox hg; have hcz4_0 : w3.cell? ⟨gb304, 0, none⟩ = some (.int .u64 a0_0) := (blk_cell BK304.out 0).trans rfl; have hcz4_1 : w3.cell? ⟨gb304, 1, none⟩ = some (.int .u64 a0_1) := (blk_cell BK304.out 1).trans rfl; have hcz4_2 : w3.cell? ⟨gb304, 2, none⟩ = some (.int .u64 a0_2) := (blk_cell BK304.out 2).trans rfl; have hcz4_3 : w3.cell? ⟨gb304, 3, none⟩ = some (.int .u64 a0_3) := (blk_cell BK304.out 3).trans rfl; have hcz4_4 : w3.cell? ⟨gb304, 4, none⟩ = some (.string a0_4) := (blk_cell BK304.out 4).trans rfl; have hcz4_5 : w3.cell? ⟨gb304, 5, none⟩ = some (.slice A0_5 l0_5.length c0_5) := (blk_cell BK304.out 5).trans rfl; have hfz4_0 := blk_frozen BK304.out 0; have hfz4_1 := blk_frozen BK304.out 1; have hfz4_2 := blk_frozen BK304.out 2; have hfz4_3 := blk_frozen BK304.out 3; have hfz4_4 := blk_frozen BK304.out 4; have hfz4_5 := blk_frozen BK304.out 5) | ((with_reducible refine gate_dst (N := 3) rfl ?_); (try (refine gate_guard (by rfl) ?_; dsimp only)); refine box_event ?hg (N := 3) ?hd (cs := #[.int .u64 0, .int .u64 0, .string (⟨#[]⟩ : ByteArray), .slice none 0 0]) (t := 28) ?hr ?_; (case hd => rfl); (case hg => rfl); (case hr => first | (go_simp; done) | (go_simp; rfl)); intro gb305 hg w5 hbox hb; have n0_ := am_ (blk_below (g := gb304) (o := .cells #[.int .u64 a0_0, .int .u64 a0_1, .int .u64 a0_2, .int .u64 a0_3, .string a0_4, .slice A0_5 l0_5.length c0_5] 30 (0, 0)) (bx_ BK304) hb); have n1_ := am_ (below_step (by repeat (first | (with_reducible first | exact HB.out | apply below_alloc | apply pw_below_drewN | apply below_drew1 | refine below_set ?_ GE304.out) | exact HB.out | exact Below.refl _ _)) hb); have n2_ := am_ (hbox); have n3_ := am_ ((by rw [hg]; exact (below_size (hx_ HB)) : w.heap.size ≤ gb305)); have n4_ := am_ ((by rw [hg]; exact (below_size (hx_ HB)) : w.heap.size ≤ gb305)); have n5_ := am_ ((by rw [hg]; exact Nat.ne_of_lt (blk_lt (g := gb304) (o := .cells #[.int .u64 a0_0, .int .u64 a0_1, .int .u64 a0_2, .int .u64 a0_3, .string a0_4, .slice A0_5 l0_5.length c0_5] 30 (0, 0)) (bx_ BK304)) : gb304 ≠ gb305)); have n6_ := am_ ((by rw [hg]; exact Nat.ne_of_gt (blk_lt (g := gb304) (o := .cells #[.int .u64 a0_0, .int .u64 a0_1, .int .u64 a0_2, .int .u64 a0_3, .string a0_4, .slice A0_5 l0_5.length c0_5] 30 (0, 0)) (bx_ BK304)) : gb305 ≠ gb304)); clear BK304; clear HB; have BK304 := n0_; have HB := n1_; have BK305 := n2_; have GW305 := n3_; have GE305 := n4_; have NB304_305 := n5_; have NB305_304 := n6_; clear n0_ n1_ n2_ n3_ n4_ n5_ n6_; clear hb hbox hg; have hnb6 := NB305_304.out; have hnc6 := NB304_305.out; have hcz7_0 : w5.cell? ⟨gb305, 0, none⟩ = some (.int .u64 0) := (blk_cell BK305.out 0).trans rfl; have hcz7_1 : w5.cell? ⟨gb305, 1, none⟩ = some (.int .u64 0) := (blk_cell BK305.out 1).trans rfl; have hcz7_2 : w5.cell? ⟨gb305, 2, none⟩ = some (.string (⟨#[]⟩ : ByteArray)) := (blk_cell BK305.out 2).trans rfl; have hcz7_3 : w5.cell? ⟨gb305, 3, none⟩ = some (.slice none 0 0) := (blk_cell BK305.out 3).trans rfl; have hfz7_0 := blk_frozen BK305.out 0; have hfz7_1 := blk_frozen BK305.out 1; have hfz7_2 := blk_frozen BK305.out 2; have hfz7_3 := blk_frozen BK305.out 3)); go_upto_region 2 with (first | ((with_reducible refine gate_dst (N := 1) rfl ?_); (try (refine gate_guard (by rfl) ?_; dsimp only)); refine box_event ?hg (N := 1) ?hd (cs := #[.int .u64 a0_0, .int .u64 a0_1, .int .u64 a0_2, .int .u64 a0_3, .string a0_4, .slice A0_5 l0_5.length c0_5]) (t := 30) ?hr ?_; (case hd => rfl); (case hg => rfl); (case hr => first | (go_simp; done) | (go_simp; rfl)); intro gb304 hg w3 hbox hb; have n0_ := am_ (below_step (by repeat (first | (with_reducible first | exact HB.out | apply below_alloc | apply pw_below_drewN | apply below_drew1) | exact HB.out | exact Below.refl _ _)) hb); have n1_ := am_ (hbox); have n2_ := am_ ((by rw [hg]; exact (below_size (hx_ HB)) : w.heap.size ≤ gb304)); have n3_ := am_ ((by rw [hg]; exact (below_size (hx_ HB)) : w.heap.size ≤ gb304)); clear HB; have HB := n0_; have BK304 := n1_; have GW304 := n2_; have GE304 := n3_; clear n0_ n1_ n2_ n3_; clear hb hbox hg; have hcz4_0 : w3.cell? ⟨gb304, 0, none⟩ = some (.int .u64 a0_0) := (blk_cell BK304.out 0).trans rfl; have hcz4_1 : w3.cell? ⟨gb304, 1, none⟩ = some (.int .u64 a0_1) := (blk_cell BK304.out 1).trans rfl; have hcz4_2 : w3.cell? ⟨gb304, 2, none⟩ = some (.int .u64 a0_2) := (blk_cell BK304.out 2).trans rfl; have hcz4_3 : w3.cell? ⟨gb304, 3, none⟩ = some (.int .u64 a0_3) := (blk_cell BK304.out 3).trans rfl; have hcz4_4 : w3.cell? ⟨gb304, 4, none⟩ = some (.string a0_4) := (blk_cell BK304.out 4).trans rfl; have hcz4_5 : w3.cell? ⟨gb304, 5, none⟩ = some (.slice A0_5 l0_5.length c0_5) := (blk_cell BK304.out 5).trans rfl; have hfz4_0 := blk_frozen BK304.out 0; have hfz4_1 := blk_frozen BK304.out 1; have hfz4_2 := blk_frozen BK304.out 2; have hfz4_3 := blk_frozen BK304.out 3; have hfz4_4 := blk_frozen BK304.out 4; have hfz4_5 := blk_frozen BK304.out 5) | ((with_reducible refine gate_dst (N := 3) rfl ?_); (try (refine gate_guard (by rfl) ?_; dsimp only)); refine box_event ?hg (N := 3) ?hd (cs := #[.int .u64 0, .int .u64 0, .string (⟨#[]⟩ : ByteArray), .slice none 0 0]) (t := 28) ?hr ?_; (case hd => rfl); (case hg => rfl); (case hr => first | (go_simp; done) | (go_simp; rfl)); intro gb305 hg w5 hbox hb; have n0_ := am_ (blk_below (g := gb304) (o := .cells #[.int .u64 a0_0, .int .u64 a0_1, .int .u64 a0_2, .int .u64 a0_3, .string a0_4, .slice A0_5 l0_5.length c0_5] 30 (0, 0)) (bx_ BK304) hb); have n1_ := am_ (below_step (by repeat (first | (with_reducible first | exact HB.out | apply below_alloc | apply pw_below_drewN | apply below_drew1 | refine below_set ?_ GE304.out) | exact HB.out | exact Below.refl _ _)) hb); have n2_ := am_ (hbox); have n3_ := am_ ((by rw [hg]; exact (below_size (hx_ HB)) : w.heap.size ≤ gb305)); have n4_ := am_ ((by rw [hg]; exact (below_size (hx_ HB)) : w.heap.size ≤ gb305)); have n5_ := am_ ((by rw [hg]; exact Nat.ne_of_lt (blk_lt (g := gb304) (o := .cells #[.int .u64 a0_0, .int .u64 a0_1, .int .u64 a0_2, .int .u64 a0_3, .string a0_4, .slice A0_5 l0_5.length c0_5] 30 (0, 0)) (bx_ BK304)) : gb304 ≠ gb305)); have n6_ := am_ ((by rw [hg]; exact Nat.ne_of_gt (blk_lt (g := gb304) (o := .cells #[.int .u64 a0_0, .int .u64 a0_1, .int .u64 a0_2, .int .u64 a0_3, .string a0_4, .slice A0_5 l0_5.length c0_5] 30 (0, 0)) (bx_ BK304)) : gb305 ≠ gb304)); clear BK304; clear HB; have BK304 := n0_; have HB := n1_; have BK305 := n2_; have GW305 := n3_; have GE305 := n4_; have NB304_305 := n5_; have NB305_304 := n6_; clear n0_ n1_ n2_ n3_ n4_ n5_ n6_; clear hb hbox hg; have hnb6 := NB305_304.out; have hnc6 := NB304_305.out; have hcz7_0 : w5.cell? ⟨gb305, 0, none⟩ = some (.int .u64 0) := (blk_cell BK305.out 0).trans rfl; have hcz7_1 : w5.cell? ⟨gb305, 1, none⟩ = some (.int .u64 0) := (blk_cell BK305.out 1).trans rfl; have hcz7_2 : w5.cell? ⟨gb305, 2, none⟩ = some (.string (⟨#[]⟩ : ByteArray)) := (blk_cell BK305.out 2).trans rfl; have hcz7_3 : w5.cell? ⟨gb305, 3, none⟩ = some (.slice none 0 0) := (blk_cell BK305.out 3).trans rfl; have hfz7_0 := blk_frozen BK305.out 0; have hfz7_1 := blk_frozen BK305.out 1; have hfz7_2 := blk_frozen BK305.out 2; have hfz7_3 := blk_frozen BK305.out 3)))
 (try simp only [Act.put, List.setIfInBounds_toArray, List.set_cons_zero, List.set_cons_succ])
 go_cut [44] (fun v44 wc => ∃ (kq : Nat) (x44_1 : Bool), v44 = .bool x44_1 ∧ Aside0 (ferruleref04_May.j0 kq x44_1 a0_0 a0_1 a0_2 a0_3 a0_4 l0_5 a0_2 a0_3 a0_4 l0_5 = some r) ∧ Aside0 (kq ≤ k) ∧ Aside0 (wc.heap[gb304]? = some (.cells #[.int .u64 a0_0, .int .u64 a0_1, .int .u64 a0_2, .int .u64 a0_3, .string a0_4, (.slice A0_5 l0_5.length c0_5)] 30 (0, 0))) ∧ Aside0 (wc.heap[gb305]? = some (.cells #[.int .u64 a0_2, .int .u64 a0_3, .string a0_4, (.slice A0_5 l0_5.length c0_5)] 28 (0, 0))) ∧ Aside0 (Below w.heap.size w wc))
 case first =>
  have H := HC2.out
  clear HC2
  by_cases c8 : a0_0 > 4611686018427387903
  ·rw [if_pos c8] at H
   have c8b0 : decide (4611686018427387903 < a0_0) = true := decide_eq_true c8
   clear c8
   (first | rw [c8b0] | (simp only [i64_w, i32_w]; rw [c8b0]) | skip)
   have H' := am_ H
   clear H
   have hnb9 := NB304_305.out
   have hnc9 := NB305_304.out
   have hcz10_0 : w5.cell? ⟨gb304, 0, none⟩ = some (.int .u64 a0_0) := (blk_cell BK304.out 0).trans rfl
   have hcz10_1 : w5.cell? ⟨gb304, 1, none⟩ = some (.int .u64 a0_1) := (blk_cell BK304.out 1).trans rfl
   have hcz10_2 : w5.cell? ⟨gb304, 2, none⟩ = some (.int .u64 a0_2) := (blk_cell BK304.out 2).trans rfl
   have hcz10_3 : w5.cell? ⟨gb304, 3, none⟩ = some (.int .u64 a0_3) := (blk_cell BK304.out 3).trans rfl
   have hcz10_4 : w5.cell? ⟨gb304, 4, none⟩ = some (.string a0_4) := (blk_cell BK304.out 4).trans rfl
   have hcz10_5 : w5.cell? ⟨gb304, 5, none⟩ = some (.slice A0_5 l0_5.length c0_5) := (blk_cell BK304.out 5).trans rfl
   have hfz10_0 := blk_frozen BK304.out 0
   have hfz10_1 := blk_frozen BK304.out 1
   have hfz10_2 := blk_frozen BK304.out 2
   have hfz10_3 := blk_frozen BK304.out 3
   have hfz10_4 := blk_frozen BK304.out 4
   have hfz10_5 := blk_frozen BK304.out 5
   go_wp2
   repeat (go_quiet (fail); try go_wp2)
   go_meet
   case rel => exact ⟨_, (true), (by first | rfl | (simp; done) | (simp [*]; done)), H', ⟨by first | omega | exact Nat.le_refl _⟩, ⟨by (with_reducible repeat (first | refine blk_drewN ?_ _ | refine blk_drew ?_ | refine blk_alloc ?_ _)); refine blk_far ?_ NB304_305.out _; (with_reducible repeat (first | refine blk_drewN ?_ _ | refine blk_drew ?_ | refine blk_alloc ?_ _)); refine blk_far ?_ NB304_305.out _; (with_reducible repeat (first | refine blk_drewN ?_ _ | refine blk_drew ?_ | refine blk_alloc ?_ _)); refine blk_far ?_ NB304_305.out _; (with_reducible repeat (first | refine blk_drewN ?_ _ | refine blk_drew ?_ | refine blk_alloc ?_ _)); refine blk_far ?_ NB304_305.out _; (with_reducible repeat (first | refine blk_drewN ?_ _ | refine blk_drew ?_ | refine blk_alloc ?_ _)); exact BK304.out⟩, ⟨by (with_reducible repeat (first | refine blk_drewN ?_ _ | refine blk_drew ?_ | refine blk_alloc ?_ _)); refine blk_put (cs := #[.int .u64 a0_2, .int .u64 a0_3, .string a0_4, .slice none 0 0]) ?_ 3 _ rfl; (with_reducible repeat (first | refine blk_drewN ?_ _ | refine blk_drew ?_ | refine blk_alloc ?_ _)); refine blk_put (cs := #[.int .u64 a0_2, .int .u64 a0_3, .string (⟨#[]⟩ : ByteArray), .slice none 0 0]) ?_ 2 _ rfl; (with_reducible repeat (first | refine blk_drewN ?_ _ | refine blk_drew ?_ | refine blk_alloc ?_ _)); refine blk_put (cs := #[.int .u64 a0_2, .int .u64 0, .string (⟨#[]⟩ : ByteArray), .slice none 0 0]) ?_ 1 _ rfl; (with_reducible repeat (first | refine blk_drewN ?_ _ | refine blk_drew ?_ | refine blk_alloc ?_ _)); refine blk_put (cs := #[.int .u64 0, .int .u64 0, .string (⟨#[]⟩ : ByteArray), .slice none 0 0]) ?_ 0 _ rfl; (with_reducible repeat (first | refine blk_drewN ?_ _ | refine blk_drew ?_ | refine blk_alloc ?_ _)); exact BK305.out⟩, ⟨hx_ HB⟩⟩
  ·rw [if_neg c8] at H
   have c8b0 : decide (4611686018427387903 < a0_0) = false := decide_eq_false c8
   clear c8
   (first | rw [c8b0] | (simp only [i64_w, i32_w]; rw [c8b0]) | skip)
   by_cases c11 : a0_1 > 4611686018427387903
   ·rw [if_pos c11] at H
    have c11b0 : decide (4611686018427387903 < a0_1) = true := decide_eq_true c11
    clear c11
    have H' := am_ H
    clear H
    have hnb12 := NB304_305.out
    have hnc12 := NB305_304.out
    have hcz13_0 : w5.cell? ⟨gb304, 0, none⟩ = some (.int .u64 a0_0) := (blk_cell BK304.out 0).trans rfl
    have hcz13_1 : w5.cell? ⟨gb304, 1, none⟩ = some (.int .u64 a0_1) := (blk_cell BK304.out 1).trans rfl
    have hcz13_2 : w5.cell? ⟨gb304, 2, none⟩ = some (.int .u64 a0_2) := (blk_cell BK304.out 2).trans rfl
    have hcz13_3 : w5.cell? ⟨gb304, 3, none⟩ = some (.int .u64 a0_3) := (blk_cell BK304.out 3).trans rfl
    have hcz13_4 : w5.cell? ⟨gb304, 4, none⟩ = some (.string a0_4) := (blk_cell BK304.out 4).trans rfl
    have hcz13_5 : w5.cell? ⟨gb304, 5, none⟩ = some (.slice A0_5 l0_5.length c0_5) := (blk_cell BK304.out 5).trans rfl
    have hfz13_0 := blk_frozen BK304.out 0
    have hfz13_1 := blk_frozen BK304.out 1
    have hfz13_2 := blk_frozen BK304.out 2
    have hfz13_3 := blk_frozen BK304.out 3
    have hfz13_4 := blk_frozen BK304.out 4
    have hfz13_5 := blk_frozen BK304.out 5
    go_wp2
    repeat (go_quiet (fail); try go_wp2)
    go_meet
    case rel => exact ⟨_, (true), (by first | rfl | (simp; done) | (simp [*]; done)), H', ⟨by first | omega | exact Nat.le_refl _⟩, ⟨by (with_reducible repeat (first | refine blk_drewN ?_ _ | refine blk_drew ?_ | refine blk_alloc ?_ _)); refine blk_far ?_ NB304_305.out _; (with_reducible repeat (first | refine blk_drewN ?_ _ | refine blk_drew ?_ | refine blk_alloc ?_ _)); refine blk_far ?_ NB304_305.out _; (with_reducible repeat (first | refine blk_drewN ?_ _ | refine blk_drew ?_ | refine blk_alloc ?_ _)); refine blk_far ?_ NB304_305.out _; (with_reducible repeat (first | refine blk_drewN ?_ _ | refine blk_drew ?_ | refine blk_alloc ?_ _)); refine blk_far ?_ NB304_305.out _; (with_reducible repeat (first | refine blk_drewN ?_ _ | refine blk_drew ?_ | refine blk_alloc ?_ _)); exact BK304.out⟩, ⟨by (with_reducible repeat (first | refine blk_drewN ?_ _ | refine blk_drew ?_ | refine blk_alloc ?_ _)); refine blk_put (cs := #[.int .u64 a0_2, .int .u64 a0_3, .string a0_4, .slice none 0 0]) ?_ 3 _ rfl; (with_reducible repeat (first | refine blk_drewN ?_ _ | refine blk_drew ?_ | refine blk_alloc ?_ _)); refine blk_put (cs := #[.int .u64 a0_2, .int .u64 a0_3, .string (⟨#[]⟩ : ByteArray), .slice none 0 0]) ?_ 2 _ rfl; (with_reducible repeat (first | refine blk_drewN ?_ _ | refine blk_drew ?_ | refine blk_alloc ?_ _)); refine blk_put (cs := #[.int .u64 a0_2, .int .u64 0, .string (⟨#[]⟩ : ByteArray), .slice none 0 0]) ?_ 1 _ rfl; (with_reducible repeat (first | refine blk_drewN ?_ _ | refine blk_drew ?_ | refine blk_alloc ?_ _)); refine blk_put (cs := #[.int .u64 0, .int .u64 0, .string (⟨#[]⟩ : ByteArray), .slice none 0 0]) ?_ 0 _ rfl; (with_reducible repeat (first | refine blk_drewN ?_ _ | refine blk_drew ?_ | refine blk_alloc ?_ _)); exact BK305.out⟩, ⟨hx_ HB⟩⟩
   ·rw [if_neg c11] at H
    have c11b0 : decide (4611686018427387903 < a0_1) = false := decide_eq_false c11
    clear c11
    by_cases c14 : a0_2 > 1099511627776
    ·rw [if_pos c14] at H
     have c14b0 : decide (1099511627776 < a0_2) = true := decide_eq_true c14
     clear c14
     have H' := am_ H
     clear H
     have hnb15 := NB304_305.out
     have hnc15 := NB305_304.out
     have hcz16_0 : w5.cell? ⟨gb304, 0, none⟩ = some (.int .u64 a0_0) := (blk_cell BK304.out 0).trans rfl
     have hcz16_1 : w5.cell? ⟨gb304, 1, none⟩ = some (.int .u64 a0_1) := (blk_cell BK304.out 1).trans rfl
     have hcz16_2 : w5.cell? ⟨gb304, 2, none⟩ = some (.int .u64 a0_2) := (blk_cell BK304.out 2).trans rfl
     have hcz16_3 : w5.cell? ⟨gb304, 3, none⟩ = some (.int .u64 a0_3) := (blk_cell BK304.out 3).trans rfl
     have hcz16_4 : w5.cell? ⟨gb304, 4, none⟩ = some (.string a0_4) := (blk_cell BK304.out 4).trans rfl
     have hcz16_5 : w5.cell? ⟨gb304, 5, none⟩ = some (.slice A0_5 l0_5.length c0_5) := (blk_cell BK304.out 5).trans rfl
     have hfz16_0 := blk_frozen BK304.out 0
     have hfz16_1 := blk_frozen BK304.out 1
     have hfz16_2 := blk_frozen BK304.out 2
     have hfz16_3 := blk_frozen BK304.out 3
     have hfz16_4 := blk_frozen BK304.out 4
     have hfz16_5 := blk_frozen BK304.out 5
     have hcz17_0 : w5.cell? ⟨gb305, 0, none⟩ = some (.int .u64 0) := (blk_cell BK305.out 0).trans rfl
     have hcz17_1 : w5.cell? ⟨gb305, 1, none⟩ = some (.int .u64 0) := (blk_cell BK305.out 1).trans rfl
     have hcz17_2 : w5.cell? ⟨gb305, 2, none⟩ = some (.string (⟨#[]⟩ : ByteArray)) := (blk_cell BK305.out 2).trans rfl
     have hcz17_3 : w5.cell? ⟨gb305, 3, none⟩ = some (.slice none 0 0) := (blk_cell BK305.out 3).trans rfl
     have hfz17_0 := blk_frozen BK305.out 0
     have hfz17_1 := blk_frozen BK305.out 1
     have hfz17_2 := blk_frozen BK305.out 2
     have hfz17_3 := blk_frozen BK305.out 3
     go_wp2
     repeat (go_quiet (fail); try go_wp2)
     go_meet
     case rel => exact ⟨_, (true), (by first | rfl | (simp; done) | (simp [*]; done)), H', ⟨by first | omega | exact Nat.le_refl _⟩, ⟨by (with_reducible repeat (first | refine blk_drewN ?_ _ | refine blk_drew ?_ | refine blk_alloc ?_ _)); refine blk_far ?_ NB304_305.out _; (with_reducible repeat (first | refine blk_drewN ?_ _ | refine blk_drew ?_ | refine blk_alloc ?_ _)); refine blk_far ?_ NB304_305.out _; (with_reducible repeat (first | refine blk_drewN ?_ _ | refine blk_drew ?_ | refine blk_alloc ?_ _)); refine blk_far ?_ NB304_305.out _; (with_reducible repeat (first | refine blk_drewN ?_ _ | refine blk_drew ?_ | refine blk_alloc ?_ _)); refine blk_far ?_ NB304_305.out _; (with_reducible repeat (first | refine blk_drewN ?_ _ | refine blk_drew ?_ | refine blk_alloc ?_ _)); exact BK304.out⟩, ⟨by (with_reducible repeat (first | refine blk_drewN ?_ _ | refine blk_drew ?_ | refine blk_alloc ?_ _)); refine blk_put (cs := #[.int .u64 a0_2, .int .u64 a0_3, .string a0_4, .slice none 0 0]) ?_ 3 _ rfl; (with_reducible repeat (first | refine blk_drewN ?_ _ | refine blk_drew ?_ | refine blk_alloc ?_ _)); refine blk_put (cs := #[.int .u64 a0_2, .int .u64 a0_3, .string (⟨#[]⟩ : ByteArray), .slice none 0 0]) ?_ 2 _ rfl; (with_reducible repeat (first | refine blk_drewN ?_ _ | refine blk_drew ?_ | refine blk_alloc ?_ _)); refine blk_put (cs := #[.int .u64 a0_2, .int .u64 0, .string (⟨#[]⟩ : ByteArray), .slice none 0 0]) ?_ 1 _ rfl; (with_reducible repeat (first | refine blk_drewN ?_ _ | refine blk_drew ?_ | refine blk_alloc ?_ _)); refine blk_put (cs := #[.int .u64 0, .int .u64 0, .string (⟨#[]⟩ : ByteArray), .slice none 0 0]) ?_ 0 _ rfl; (with_reducible repeat (first | refine blk_drewN ?_ _ | refine blk_drew ?_ | refine blk_alloc ?_ _)); exact BK305.out⟩, ⟨hx_ HB⟩⟩
    ·rw [if_neg c14] at H
     have c14b0 : decide (1099511627776 < a0_2) = false := decide_eq_false c14
     clear c14
     by_cases c18 : (l0_5.length : Int) > 1024
     ·rw [if_pos c18] at H
      have c18b0 : decide (1024 < (l0_5.length : Int)) = true := decide_eq_true c18
      have c18b1 : decide (1024 < l0_5.length) = true := decide_eq_true (by omega)
      clear c18
      have H' := am_ H
      clear H
      have hnb19 := NB304_305.out
      have hnc19 := NB305_304.out
      have hcz20_0 : w5.cell? ⟨gb304, 0, none⟩ = some (.int .u64 a0_0) := (blk_cell BK304.out 0).trans rfl
      have hcz20_1 : w5.cell? ⟨gb304, 1, none⟩ = some (.int .u64 a0_1) := (blk_cell BK304.out 1).trans rfl
      have hcz20_2 : w5.cell? ⟨gb304, 2, none⟩ = some (.int .u64 a0_2) := (blk_cell BK304.out 2).trans rfl
      have hcz20_3 : w5.cell? ⟨gb304, 3, none⟩ = some (.int .u64 a0_3) := (blk_cell BK304.out 3).trans rfl
      have hcz20_4 : w5.cell? ⟨gb304, 4, none⟩ = some (.string a0_4) := (blk_cell BK304.out 4).trans rfl
      have hcz20_5 : w5.cell? ⟨gb304, 5, none⟩ = some (.slice A0_5 l0_5.length c0_5) := (blk_cell BK304.out 5).trans rfl
      have hfz20_0 := blk_frozen BK304.out 0
      have hfz20_1 := blk_frozen BK304.out 1
      have hfz20_2 := blk_frozen BK304.out 2
      have hfz20_3 := blk_frozen BK304.out 3
      have hfz20_4 := blk_frozen BK304.out 4
      have hfz20_5 := blk_frozen BK304.out 5
      have hcz21_0 : w5.cell? ⟨gb305, 0, none⟩ = some (.int .u64 0) := (blk_cell BK305.out 0).trans rfl
      have hcz21_1 : w5.cell? ⟨gb305, 1, none⟩ = some (.int .u64 0) := (blk_cell BK305.out 1).trans rfl
      have hcz21_2 : w5.cell? ⟨gb305, 2, none⟩ = some (.string (⟨#[]⟩ : ByteArray)) := (blk_cell BK305.out 2).trans rfl
      have hcz21_3 : w5.cell? ⟨gb305, 3, none⟩ = some (.slice none 0 0) := (blk_cell BK305.out 3).trans rfl
      have hfz21_0 := blk_frozen BK305.out 0
      have hfz21_1 := blk_frozen BK305.out 1
      have hfz21_2 := blk_frozen BK305.out 2
      have hfz21_3 := blk_frozen BK305.out 3
      go_wp2
      repeat (go_quiet (fail); try go_wp2)
      go_meet
      case rel => exact ⟨_, (true), (by first | rfl | (simp; done) | (simp [*]; done)), H', ⟨by first | omega | exact Nat.le_refl _⟩, ⟨by (with_reducible repeat (first | refine blk_drewN ?_ _ | refine blk_drew ?_ | refine blk_alloc ?_ _)); refine blk_far ?_ NB304_305.out _; (with_reducible repeat (first | refine blk_drewN ?_ _ | refine blk_drew ?_ | refine blk_alloc ?_ _)); refine blk_far ?_ NB304_305.out _; (with_reducible repeat (first | refine blk_drewN ?_ _ | refine blk_drew ?_ | refine blk_alloc ?_ _)); refine blk_far ?_ NB304_305.out _; (with_reducible repeat (first | refine blk_drewN ?_ _ | refine blk_drew ?_ | refine blk_alloc ?_ _)); refine blk_far ?_ NB304_305.out _; (with_reducible repeat (first | refine blk_drewN ?_ _ | refine blk_drew ?_ | refine blk_alloc ?_ _)); exact BK304.out⟩, ⟨by (with_reducible repeat (first | refine blk_drewN ?_ _ | refine blk_drew ?_ | refine blk_alloc ?_ _)); refine blk_put (cs := #[.int .u64 a0_2, .int .u64 a0_3, .string a0_4, .slice none 0 0]) ?_ 3 _ rfl; (with_reducible repeat (first | refine blk_drewN ?_ _ | refine blk_drew ?_ | refine blk_alloc ?_ _)); refine blk_put (cs := #[.int .u64 a0_2, .int .u64 a0_3, .string (⟨#[]⟩ : ByteArray), .slice none 0 0]) ?_ 2 _ rfl; (with_reducible repeat (first | refine blk_drewN ?_ _ | refine blk_drew ?_ | refine blk_alloc ?_ _)); refine blk_put (cs := #[.int .u64 a0_2, .int .u64 0, .string (⟨#[]⟩ : ByteArray), .slice none 0 0]) ?_ 1 _ rfl; (with_reducible repeat (first | refine blk_drewN ?_ _ | refine blk_drew ?_ | refine blk_alloc ?_ _)); refine blk_put (cs := #[.int .u64 0, .int .u64 0, .string (⟨#[]⟩ : ByteArray), .slice none 0 0]) ?_ 0 _ rfl; (with_reducible repeat (first | refine blk_drewN ?_ _ | refine blk_drew ?_ | refine blk_alloc ?_ _)); exact BK305.out⟩, ⟨hx_ HB⟩⟩
     ·rw [if_neg c18] at H
      have c18b0 : decide (1024 < (l0_5.length : Int)) = false := decide_eq_false c18
      have c18b1 : decide (1024 < l0_5.length) = false := decide_eq_false (by omega)
      clear c18
      replace H := Option.bind_eq_some_iff.mp H
      obtain ⟨t306, A220, H⟩ := H
      replace H : (if t306 > 1099511627776 then (ferruleref04_May.j0 k true a0_0 a0_1 a0_2 a0_3 a0_4 l0_5 a0_2 a0_3 a0_4 l0_5) else (if (a0_4.size : Int) > 4096 then (ferruleref04_May.j0 k true a0_0 a0_1 a0_2 a0_3 a0_4 l0_5 a0_2 a0_3 a0_4 l0_5) else (ferruleref04_May.j0 k (decide (a0_3 > a0_0)) a0_0 a0_1 a0_2 a0_3 a0_4 l0_5 a0_2 a0_3 a0_4 l0_5))) = some r := H
      have A22 := am_ A220
      clear A220
      by_cases c23 : t306 > 1099511627776
      ·rw [if_pos c23] at H
       have c23b0 : decide (1099511627776 < t306) = true := decide_eq_true c23
       clear c23
       have H' := am_ H
       clear H
       have hnb24 := NB304_305.out
       have hnc24 := NB305_304.out
       have hcz25_0 : w5.cell? ⟨gb304, 0, none⟩ = some (.int .u64 a0_0) := (blk_cell BK304.out 0).trans rfl
       have hcz25_1 : w5.cell? ⟨gb304, 1, none⟩ = some (.int .u64 a0_1) := (blk_cell BK304.out 1).trans rfl
       have hcz25_2 : w5.cell? ⟨gb304, 2, none⟩ = some (.int .u64 a0_2) := (blk_cell BK304.out 2).trans rfl
       have hcz25_3 : w5.cell? ⟨gb304, 3, none⟩ = some (.int .u64 a0_3) := (blk_cell BK304.out 3).trans rfl
       have hcz25_4 : w5.cell? ⟨gb304, 4, none⟩ = some (.string a0_4) := (blk_cell BK304.out 4).trans rfl
       have hcz25_5 : w5.cell? ⟨gb304, 5, none⟩ = some (.slice A0_5 l0_5.length c0_5) := (blk_cell BK304.out 5).trans rfl
       have hfz25_0 := blk_frozen BK304.out 0
       have hfz25_1 := blk_frozen BK304.out 1
       have hfz25_2 := blk_frozen BK304.out 2
       have hfz25_3 := blk_frozen BK304.out 3
       have hfz25_4 := blk_frozen BK304.out 4
       have hfz25_5 := blk_frozen BK304.out 5
       have hcz26_0 : w5.cell? ⟨gb305, 0, none⟩ = some (.int .u64 0) := (blk_cell BK305.out 0).trans rfl
       have hcz26_1 : w5.cell? ⟨gb305, 1, none⟩ = some (.int .u64 0) := (blk_cell BK305.out 1).trans rfl
       have hcz26_2 : w5.cell? ⟨gb305, 2, none⟩ = some (.string (⟨#[]⟩ : ByteArray)) := (blk_cell BK305.out 2).trans rfl
       have hcz26_3 : w5.cell? ⟨gb305, 3, none⟩ = some (.slice none 0 0) := (blk_cell BK305.out 3).trans rfl
       have hfz26_0 := blk_frozen BK305.out 0
       have hfz26_1 := blk_frozen BK305.out 1
       have hfz26_2 := blk_frozen BK305.out 2
       have hfz26_3 := blk_frozen BK305.out 3
       go_wp2_with (first | (go_at_call 54; (with_reducible refine (ferruleref04_Last.calls a0_2 a0_3 a0_4 _ _ l0_5 t306 _ ?side1 ?side2 A22.out).mono ?_); (case side1 => exact Kd.C_below HR0_5.out (hx_ HB)); (case side2 => exact HC0_5.out); rintro e w27 ⟨rfl, hb⟩; have n0_ := am_ (blk_below (g := gb304) (o := .cells #[.int .u64 a0_0, .int .u64 a0_1, .int .u64 a0_2, .int .u64 a0_3, .string a0_4, .slice A0_5 l0_5.length c0_5] 30 (0, 0)) (by (with_reducible repeat (first | refine blk_drewN ?_ _ | refine blk_drew ?_ | refine blk_alloc ?_ _)); refine blk_far ?_ NB304_305.out _; (with_reducible repeat (first | refine blk_drewN ?_ _ | refine blk_drew ?_ | refine blk_alloc ?_ _)); refine blk_far ?_ NB304_305.out _; (with_reducible repeat (first | refine blk_drewN ?_ _ | refine blk_drew ?_ | refine blk_alloc ?_ _)); refine blk_far ?_ NB304_305.out _; (with_reducible repeat (first | refine blk_drewN ?_ _ | refine blk_drew ?_ | refine blk_alloc ?_ _)); refine blk_far ?_ NB304_305.out _; (with_reducible repeat (first | refine blk_drewN ?_ _ | refine blk_drew ?_ | refine blk_alloc ?_ _)); exact BK304.out) hb); have n1_ := am_ (blk_below (g := gb305) (o := .cells #[.int .u64 a0_2, .int .u64 a0_3, .string a0_4, .slice A0_5 l0_5.length c0_5] 28 (0, 0)) (by (with_reducible repeat (first | refine blk_drewN ?_ _ | refine blk_drew ?_ | refine blk_alloc ?_ _)); refine blk_put (cs := #[.int .u64 a0_2, .int .u64 a0_3, .string a0_4, .slice none 0 0]) ?_ 3 _ rfl; (with_reducible repeat (first | refine blk_drewN ?_ _ | refine blk_drew ?_ | refine blk_alloc ?_ _)); refine blk_put (cs := #[.int .u64 a0_2, .int .u64 a0_3, .string (⟨#[]⟩ : ByteArray), .slice none 0 0]) ?_ 2 _ rfl; (with_reducible repeat (first | refine blk_drewN ?_ _ | refine blk_drew ?_ | refine blk_alloc ?_ _)); refine blk_put (cs := #[.int .u64 a0_2, .int .u64 0, .string (⟨#[]⟩ : ByteArray), .slice none 0 0]) ?_ 1 _ rfl; (with_reducible repeat (first | refine blk_drewN ?_ _ | refine blk_drew ?_ | refine blk_alloc ?_ _)); refine blk_put (cs := #[.int .u64 0, .int .u64 0, .string (⟨#[]⟩ : ByteArray), .slice none 0 0]) ?_ 0 _ rfl; (with_reducible repeat (first | refine blk_drewN ?_ _ | refine blk_drew ?_ | refine blk_alloc ?_ _)); exact BK305.out) hb); have n2_ := am_ (below_step (by repeat (first | (with_reducible first | exact HB.out | apply below_alloc | apply pw_below_drewN | apply below_drew1 | refine below_set ?_ GE304.out | refine below_set ?_ GE305.out) | exact HB.out | exact Below.refl _ _)) hb); clear BK304; clear BK305; clear HB; have BK304 := n0_; have BK305 := n1_; have HB := n2_; clear n0_ n1_ n2_; (try clear hb); (try clear hb2); (try clear hk); (try clear hi)))
       repeat (go_quiet (first | (go_at_call 54; (with_reducible refine (ferruleref04_Last.calls a0_2 a0_3 a0_4 _ _ l0_5 t306 _ ?side1 ?side2 A22.out).mono ?_); (case side1 => exact Kd.C_below HR0_5.out (hx_ HB)); (case side2 => exact HC0_5.out); rintro e w27 ⟨rfl, hb⟩; have n0_ := am_ (blk_below (g := gb304) (o := .cells #[.int .u64 a0_0, .int .u64 a0_1, .int .u64 a0_2, .int .u64 a0_3, .string a0_4, .slice A0_5 l0_5.length c0_5] 30 (0, 0)) (by (with_reducible repeat (first | refine blk_drewN ?_ _ | refine blk_drew ?_ | refine blk_alloc ?_ _)); refine blk_far ?_ NB304_305.out _; (with_reducible repeat (first | refine blk_drewN ?_ _ | refine blk_drew ?_ | refine blk_alloc ?_ _)); refine blk_far ?_ NB304_305.out _; (with_reducible repeat (first | refine blk_drewN ?_ _ | refine blk_drew ?_ | refine blk_alloc ?_ _)); refine blk_far ?_ NB304_305.out _; (with_reducible repeat (first | refine blk_drewN ?_ _ | refine blk_drew ?_ | refine blk_alloc ?_ _)); refine blk_far ?_ NB304_305.out _; (with_reducible repeat (first | refine blk_drewN ?_ _ | refine blk_drew ?_ | refine blk_alloc ?_ _)); exact BK304.out) hb); have n1_ := am_ (blk_below (g := gb305) (o := .cells #[.int .u64 a0_2, .int .u64 a0_3, .string a0_4, .slice A0_5 l0_5.length c0_5] 28 (0, 0)) (by (with_reducible repeat (first | refine blk_drewN ?_ _ | refine blk_drew ?_ | refine blk_alloc ?_ _)); refine blk_put (cs := #[.int .u64 a0_2, .int .u64 a0_3, .string a0_4, .slice none 0 0]) ?_ 3 _ rfl; (with_reducible repeat (first | refine blk_drewN ?_ _ | refine blk_drew ?_ | refine blk_alloc ?_ _)); refine blk_put (cs := #[.int .u64 a0_2, .int .u64 a0_3, .string (⟨#[]⟩ : ByteArray), .slice none 0 0]) ?_ 2 _ rfl; (with_reducible repeat (first | refine blk_drewN ?_ _ | refine blk_drew ?_ | refine blk_alloc ?_ _)); refine blk_put (cs := #[.int .u64 a0_2, .int .u64 0, .string (⟨#[]⟩ : ByteArray), .slice none 0 0]) ?_ 1 _ rfl; (with_reducible repeat (first | refine blk_drewN ?_ _ | refine blk_drew ?_ | refine blk_alloc ?_ _)); refine blk_put (cs := #[.int .u64 0, .int .u64 0, .string (⟨#[]⟩ : ByteArray), .slice none 0 0]) ?_ 0 _ rfl; (with_reducible repeat (first | refine blk_drewN ?_ _ | refine blk_drew ?_ | refine blk_alloc ?_ _)); exact BK305.out) hb); have n2_ := am_ (below_step (by repeat (first | (with_reducible first | exact HB.out | apply below_alloc | apply pw_below_drewN | apply below_drew1 | refine below_set ?_ GE304.out | refine below_set ?_ GE305.out) | exact HB.out | exact Below.refl _ _)) hb); clear BK304; clear BK305; clear HB; have BK304 := n0_; have BK305 := n1_; have HB := n2_; clear n0_ n1_ n2_; (try clear hb); (try clear hb2); (try clear hk); (try clear hi))); try go_wp2_with (first | (go_at_call 54; (with_reducible refine (ferruleref04_Last.calls a0_2 a0_3 a0_4 _ _ l0_5 t306 _ ?side1 ?side2 A22.out).mono ?_); (case side1 => exact Kd.C_below HR0_5.out (hx_ HB)); (case side2 => exact HC0_5.out); rintro e w27 ⟨rfl, hb⟩; have n0_ := am_ (blk_below (g := gb304) (o := .cells #[.int .u64 a0_0, .int .u64 a0_1, .int .u64 a0_2, .int .u64 a0_3, .string a0_4, .slice A0_5 l0_5.length c0_5] 30 (0, 0)) (by (with_reducible repeat (first | refine blk_drewN ?_ _ | refine blk_drew ?_ | refine blk_alloc ?_ _)); refine blk_far ?_ NB304_305.out _; (with_reducible repeat (first | refine blk_drewN ?_ _ | refine blk_drew ?_ | refine blk_alloc ?_ _)); refine blk_far ?_ NB304_305.out _; (with_reducible repeat (first | refine blk_drewN ?_ _ | refine blk_drew ?_ | refine blk_alloc ?_ _)); refine blk_far ?_ NB304_305.out _; (with_reducible repeat (first | refine blk_drewN ?_ _ | refine blk_drew ?_ | refine blk_alloc ?_ _)); refine blk_far ?_ NB304_305.out _; (with_reducible repeat (first | refine blk_drewN ?_ _ | refine blk_drew ?_ | refine blk_alloc ?_ _)); exact BK304.out) hb); have n1_ := am_ (blk_below (g := gb305) (o := .cells #[.int .u64 a0_2, .int .u64 a0_3, .string a0_4, .slice A0_5 l0_5.length c0_5] 28 (0, 0)) (by (with_reducible repeat (first | refine blk_drewN ?_ _ | refine blk_drew ?_ | refine blk_alloc ?_ _)); refine blk_put (cs := #[.int .u64 a0_2, .int .u64 a0_3, .string a0_4, .slice none 0 0]) ?_ 3 _ rfl; (with_reducible repeat (first | refine blk_drewN ?_ _ | refine blk_drew ?_ | refine blk_alloc ?_ _)); refine blk_put (cs := #[.int .u64 a0_2, .int .u64 a0_3, .string (⟨#[]⟩ : ByteArray), .slice none 0 0]) ?_ 2 _ rfl; (with_reducible repeat (first | refine blk_drewN ?_ _ | refine blk_drew ?_ | refine blk_alloc ?_ _)); refine blk_put (cs := #[.int .u64 a0_2, .int .u64 0, .string (⟨#[]⟩ : ByteArray), .slice none 0 0]) ?_ 1 _ rfl; (with_reducible repeat (first | refine blk_drewN ?_ _ | refine blk_drew ?_ | refine blk_alloc ?_ _)); refine blk_put (cs := #[.int .u64 0, .int .u64 0, .string (⟨#[]⟩ : ByteArray), .slice none 0 0]) ?_ 0 _ rfl; (with_reducible repeat (first | refine blk_drewN ?_ _ | refine blk_drew ?_ | refine blk_alloc ?_ _)); exact BK305.out) hb); have n2_ := am_ (below_step (by repeat (first | (with_reducible first | exact HB.out | apply below_alloc | apply pw_below_drewN | apply below_drew1 | refine below_set ?_ GE304.out | refine below_set ?_ GE305.out) | exact HB.out | exact Below.refl _ _)) hb); clear BK304; clear BK305; clear HB; have BK304 := n0_; have BK305 := n1_; have HB := n2_; clear n0_ n1_ n2_; (try clear hb); (try clear hb2); (try clear hk); (try clear hi))))
       go_meet
       case rel => exact ⟨_, (true), (by first | rfl | (simp; done) | (simp [*]; done)), H', ⟨by first | omega | exact Nat.le_refl _⟩, ⟨bx_ BK304⟩, ⟨bx_ BK305⟩, ⟨hx_ HB⟩⟩
      ·rw [if_neg c23] at H
       have c23b0 : decide (1099511627776 < t306) = false := decide_eq_false c23
       clear c23
       by_cases c28 : (a0_4.size : Int) > 4096
       ·rw [if_pos c28] at H
        have c28b0 : decide (4096 < (a0_4.size : Int)) = true := decide_eq_true c28
        have c28b1 : decide (4096 < a0_4.size) = true := decide_eq_true (by omega)
        clear c28
        have H' := am_ H
        clear H
        have hnb29 := NB304_305.out
        have hnc29 := NB305_304.out
        have hcz30_0 : w5.cell? ⟨gb304, 0, none⟩ = some (.int .u64 a0_0) := (blk_cell BK304.out 0).trans rfl
        have hcz30_1 : w5.cell? ⟨gb304, 1, none⟩ = some (.int .u64 a0_1) := (blk_cell BK304.out 1).trans rfl
        have hcz30_2 : w5.cell? ⟨gb304, 2, none⟩ = some (.int .u64 a0_2) := (blk_cell BK304.out 2).trans rfl
        have hcz30_3 : w5.cell? ⟨gb304, 3, none⟩ = some (.int .u64 a0_3) := (blk_cell BK304.out 3).trans rfl
        have hcz30_4 : w5.cell? ⟨gb304, 4, none⟩ = some (.string a0_4) := (blk_cell BK304.out 4).trans rfl
        have hcz30_5 : w5.cell? ⟨gb304, 5, none⟩ = some (.slice A0_5 l0_5.length c0_5) := (blk_cell BK304.out 5).trans rfl
        have hfz30_0 := blk_frozen BK304.out 0
        have hfz30_1 := blk_frozen BK304.out 1
        have hfz30_2 := blk_frozen BK304.out 2
        have hfz30_3 := blk_frozen BK304.out 3
        have hfz30_4 := blk_frozen BK304.out 4
        have hfz30_5 := blk_frozen BK304.out 5
        have hcz31_0 : w5.cell? ⟨gb305, 0, none⟩ = some (.int .u64 0) := (blk_cell BK305.out 0).trans rfl
        have hcz31_1 : w5.cell? ⟨gb305, 1, none⟩ = some (.int .u64 0) := (blk_cell BK305.out 1).trans rfl
        have hcz31_2 : w5.cell? ⟨gb305, 2, none⟩ = some (.string (⟨#[]⟩ : ByteArray)) := (blk_cell BK305.out 2).trans rfl
        have hcz31_3 : w5.cell? ⟨gb305, 3, none⟩ = some (.slice none 0 0) := (blk_cell BK305.out 3).trans rfl
        have hfz31_0 := blk_frozen BK305.out 0
        have hfz31_1 := blk_frozen BK305.out 1
        have hfz31_2 := blk_frozen BK305.out 2
        have hfz31_3 := blk_frozen BK305.out 3
        go_wp2_with (first | (go_at_call 54; (with_reducible refine (ferruleref04_Last.calls a0_2 a0_3 a0_4 _ _ l0_5 t306 _ ?side1 ?side2 A22.out).mono ?_); (case side1 => exact Kd.C_below HR0_5.out (hx_ HB)); (case side2 => exact HC0_5.out); rintro e w32 ⟨rfl, hb⟩; have n0_ := am_ (blk_below (g := gb304) (o := .cells #[.int .u64 a0_0, .int .u64 a0_1, .int .u64 a0_2, .int .u64 a0_3, .string a0_4, .slice A0_5 l0_5.length c0_5] 30 (0, 0)) (by (with_reducible repeat (first | refine blk_drewN ?_ _ | refine blk_drew ?_ | refine blk_alloc ?_ _)); refine blk_far ?_ NB304_305.out _; (with_reducible repeat (first | refine blk_drewN ?_ _ | refine blk_drew ?_ | refine blk_alloc ?_ _)); refine blk_far ?_ NB304_305.out _; (with_reducible repeat (first | refine blk_drewN ?_ _ | refine blk_drew ?_ | refine blk_alloc ?_ _)); refine blk_far ?_ NB304_305.out _; (with_reducible repeat (first | refine blk_drewN ?_ _ | refine blk_drew ?_ | refine blk_alloc ?_ _)); refine blk_far ?_ NB304_305.out _; (with_reducible repeat (first | refine blk_drewN ?_ _ | refine blk_drew ?_ | refine blk_alloc ?_ _)); exact BK304.out) hb); have n1_ := am_ (blk_below (g := gb305) (o := .cells #[.int .u64 a0_2, .int .u64 a0_3, .string a0_4, .slice A0_5 l0_5.length c0_5] 28 (0, 0)) (by (with_reducible repeat (first | refine blk_drewN ?_ _ | refine blk_drew ?_ | refine blk_alloc ?_ _)); refine blk_put (cs := #[.int .u64 a0_2, .int .u64 a0_3, .string a0_4, .slice none 0 0]) ?_ 3 _ rfl; (with_reducible repeat (first | refine blk_drewN ?_ _ | refine blk_drew ?_ | refine blk_alloc ?_ _)); refine blk_put (cs := #[.int .u64 a0_2, .int .u64 a0_3, .string (⟨#[]⟩ : ByteArray), .slice none 0 0]) ?_ 2 _ rfl; (with_reducible repeat (first | refine blk_drewN ?_ _ | refine blk_drew ?_ | refine blk_alloc ?_ _)); refine blk_put (cs := #[.int .u64 a0_2, .int .u64 0, .string (⟨#[]⟩ : ByteArray), .slice none 0 0]) ?_ 1 _ rfl; (with_reducible repeat (first | refine blk_drewN ?_ _ | refine blk_drew ?_ | refine blk_alloc ?_ _)); refine blk_put (cs := #[.int .u64 0, .int .u64 0, .string (⟨#[]⟩ : ByteArray), .slice none 0 0]) ?_ 0 _ rfl; (with_reducible repeat (first | refine blk_drewN ?_ _ | refine blk_drew ?_ | refine blk_alloc ?_ _)); exact BK305.out) hb); have n2_ := am_ (below_step (by repeat (first | (with_reducible first | exact HB.out | apply below_alloc | apply pw_below_drewN | apply below_drew1 | refine below_set ?_ GE304.out | refine below_set ?_ GE305.out) | exact HB.out | exact Below.refl _ _)) hb); clear BK304; clear BK305; clear HB; have BK304 := n0_; have BK305 := n1_; have HB := n2_; clear n0_ n1_ n2_; (try clear hb); (try clear hb2); (try clear hk); (try clear hi); have hcz33_0 : w32.cell? ⟨gb305, 0, none⟩ = some (.int .u64 a0_2) := (blk_cell BK305.out 0).trans rfl; have hcz33_1 : w32.cell? ⟨gb305, 1, none⟩ = some (.int .u64 a0_3) := (blk_cell BK305.out 1).trans rfl; have hcz33_2 : w32.cell? ⟨gb305, 2, none⟩ = some (.string a0_4) := (blk_cell BK305.out 2).trans rfl; have hcz33_3 : w32.cell? ⟨gb305, 3, none⟩ = some (.slice A0_5 l0_5.length c0_5) := (blk_cell BK305.out 3).trans rfl; have hfz33_0 := blk_frozen BK305.out 0; have hfz33_1 := blk_frozen BK305.out 1; have hfz33_2 := blk_frozen BK305.out 2; have hfz33_3 := blk_frozen BK305.out 3))
        repeat (go_quiet (first | (go_at_call 54; (with_reducible refine (ferruleref04_Last.calls a0_2 a0_3 a0_4 _ _ l0_5 t306 _ ?side1 ?side2 A22.out).mono ?_); (case side1 => exact Kd.C_below HR0_5.out (hx_ HB)); (case side2 => exact HC0_5.out); rintro e w32 ⟨rfl, hb⟩; have n0_ := am_ (blk_below (g := gb304) (o := .cells #[.int .u64 a0_0, .int .u64 a0_1, .int .u64 a0_2, .int .u64 a0_3, .string a0_4, .slice A0_5 l0_5.length c0_5] 30 (0, 0)) (by (with_reducible repeat (first | refine blk_drewN ?_ _ | refine blk_drew ?_ | refine blk_alloc ?_ _)); refine blk_far ?_ NB304_305.out _; (with_reducible repeat (first | refine blk_drewN ?_ _ | refine blk_drew ?_ | refine blk_alloc ?_ _)); refine blk_far ?_ NB304_305.out _; (with_reducible repeat (first | refine blk_drewN ?_ _ | refine blk_drew ?_ | refine blk_alloc ?_ _)); refine blk_far ?_ NB304_305.out _; (with_reducible repeat (first | refine blk_drewN ?_ _ | refine blk_drew ?_ | refine blk_alloc ?_ _)); refine blk_far ?_ NB304_305.out _; (with_reducible repeat (first | refine blk_drewN ?_ _ | refine blk_drew ?_ | refine blk_alloc ?_ _)); exact BK304.out) hb); have n1_ := am_ (blk_below (g := gb305) (o := .cells #[.int .u64 a0_2, .int .u64 a0_3, .string a0_4, .slice A0_5 l0_5.length c0_5] 28 (0, 0)) (by (with_reducible repeat (first | refine blk_drewN ?_ _ | refine blk_drew ?_ | refine blk_alloc ?_ _)); refine blk_put (cs := #[.int .u64 a0_2, .int .u64 a0_3, .string a0_4, .slice none 0 0]) ?_ 3 _ rfl; (with_reducible repeat (first | refine blk_drewN ?_ _ | refine blk_drew ?_ | refine blk_alloc ?_ _)); refine blk_put (cs := #[.int .u64 a0_2, .int .u64 a0_3, .string (⟨#[]⟩ : ByteArray), .slice none 0 0]) ?_ 2 _ rfl; (with_reducible repeat (first | refine blk_drewN ?_ _ | refine blk_drew ?_ | refine blk_alloc ?_ _)); refine blk_put (cs := #[.int .u64 a0_2, .int .u64 0, .string (⟨#[]⟩ : ByteArray), .slice none 0 0]) ?_ 1 _ rfl; (with_reducible repeat (first | refine blk_drewN ?_ _ | refine blk_drew ?_ | refine blk_alloc ?_ _)); refine blk_put (cs := #[.int .u64 0, .int .u64 0, .string (⟨#[]⟩ : ByteArray), .slice none 0 0]) ?_ 0 _ rfl; (with_reducible repeat (first | refine blk_drewN ?_ _ | refine blk_drew ?_ | refine blk_alloc ?_ _)); exact BK305.out) hb); have n2_ := am_ (below_step (by repeat (first | (with_reducible first | exact HB.out | apply below_alloc | apply pw_below_drewN | apply below_drew1 | refine below_set ?_ GE304.out | refine below_set ?_ GE305.out) | exact HB.out | exact Below.refl _ _)) hb); clear BK304; clear BK305; clear HB; have BK304 := n0_; have BK305 := n1_; have HB := n2_; clear n0_ n1_ n2_; (try clear hb); (try clear hb2); (try clear hk); (try clear hi); have hcz33_0 : w32.cell? ⟨gb305, 0, none⟩ = some (.int .u64 a0_2) := (blk_cell BK305.out 0).trans rfl; have hcz33_1 : w32.cell? ⟨gb305, 1, none⟩ = some (.int .u64 a0_3) := (blk_cell BK305.out 1).trans rfl; have hcz33_2 : w32.cell? ⟨gb305, 2, none⟩ = some (.string a0_4) := (blk_cell BK305.out 2).trans rfl; have hcz33_3 : w32.cell? ⟨gb305, 3, none⟩ = some (.slice A0_5 l0_5.length c0_5) := (blk_cell BK305.out 3).trans rfl; have hfz33_0 := blk_frozen BK305.out 0; have hfz33_1 := blk_frozen BK305.out 1; have hfz33_2 := blk_frozen BK305.out 2; have hfz33_3 := blk_frozen BK305.out 3)); try go_wp2_with (first | (go_at_call 54; (with_reducible refine (ferruleref04_Last.calls a0_2 a0_3 a0_4 _ _ l0_5 t306 _ ?side1 ?side2 A22.out).mono ?_); (case side1 => exact Kd.C_below HR0_5.out (hx_ HB)); (case side2 => exact HC0_5.out); rintro e w32 ⟨rfl, hb⟩; have n0_ := am_ (blk_below (g := gb304) (o := .cells #[.int .u64 a0_0, .int .u64 a0_1, .int .u64 a0_2, .int .u64 a0_3, .string a0_4, .slice A0_5 l0_5.length c0_5] 30 (0, 0)) (by (with_reducible repeat (first | refine blk_drewN ?_ _ | refine blk_drew ?_ | refine blk_alloc ?_ _)); refine blk_far ?_ NB304_305.out _; (with_reducible repeat (first | refine blk_drewN ?_ _ | refine blk_drew ?_ | refine blk_alloc ?_ _)); refine blk_far ?_ NB304_305.out _; (with_reducible repeat (first | refine blk_drewN ?_ _ | refine blk_drew ?_ | refine blk_alloc ?_ _)); refine blk_far ?_ NB304_305.out _; (with_reducible repeat (first | refine blk_drewN ?_ _ | refine blk_drew ?_ | refine blk_alloc ?_ _)); refine blk_far ?_ NB304_305.out _; (with_reducible repeat (first | refine blk_drewN ?_ _ | refine blk_drew ?_ | refine blk_alloc ?_ _)); exact BK304.out) hb); have n1_ := am_ (blk_below (g := gb305) (o := .cells #[.int .u64 a0_2, .int .u64 a0_3, .string a0_4, .slice A0_5 l0_5.length c0_5] 28 (0, 0)) (by (with_reducible repeat (first | refine blk_drewN ?_ _ | refine blk_drew ?_ | refine blk_alloc ?_ _)); refine blk_put (cs := #[.int .u64 a0_2, .int .u64 a0_3, .string a0_4, .slice none 0 0]) ?_ 3 _ rfl; (with_reducible repeat (first | refine blk_drewN ?_ _ | refine blk_drew ?_ | refine blk_alloc ?_ _)); refine blk_put (cs := #[.int .u64 a0_2, .int .u64 a0_3, .string (⟨#[]⟩ : ByteArray), .slice none 0 0]) ?_ 2 _ rfl; (with_reducible repeat (first | refine blk_drewN ?_ _ | refine blk_drew ?_ | refine blk_alloc ?_ _)); refine blk_put (cs := #[.int .u64 a0_2, .int .u64 0, .string (⟨#[]⟩ : ByteArray), .slice none 0 0]) ?_ 1 _ rfl; (with_reducible repeat (first | refine blk_drewN ?_ _ | refine blk_drew ?_ | refine blk_alloc ?_ _)); refine blk_put (cs := #[.int .u64 0, .int .u64 0, .string (⟨#[]⟩ : ByteArray), .slice none 0 0]) ?_ 0 _ rfl; (with_reducible repeat (first | refine blk_drewN ?_ _ | refine blk_drew ?_ | refine blk_alloc ?_ _)); exact BK305.out) hb); have n2_ := am_ (below_step (by repeat (first | (with_reducible first | exact HB.out | apply below_alloc | apply pw_below_drewN | apply below_drew1 | refine below_set ?_ GE304.out | refine below_set ?_ GE305.out) | exact HB.out | exact Below.refl _ _)) hb); clear BK304; clear BK305; clear HB; have BK304 := n0_; have BK305 := n1_; have HB := n2_; clear n0_ n1_ n2_; (try clear hb); (try clear hb2); (try clear hk); (try clear hi); have hcz33_0 : w32.cell? ⟨gb305, 0, none⟩ = some (.int .u64 a0_2) := (blk_cell BK305.out 0).trans rfl; have hcz33_1 : w32.cell? ⟨gb305, 1, none⟩ = some (.int .u64 a0_3) := (blk_cell BK305.out 1).trans rfl; have hcz33_2 : w32.cell? ⟨gb305, 2, none⟩ = some (.string a0_4) := (blk_cell BK305.out 2).trans rfl; have hcz33_3 : w32.cell? ⟨gb305, 3, none⟩ = some (.slice A0_5 l0_5.length c0_5) := (blk_cell BK305.out 3).trans rfl; have hfz33_0 := blk_frozen BK305.out 0; have hfz33_1 := blk_frozen BK305.out 1; have hfz33_2 := blk_frozen BK305.out 2; have hfz33_3 := blk_frozen BK305.out 3)))
        go_meet
        case rel => exact ⟨_, (true), (by first | rfl | (simp; done) | (simp [*]; done)), H', ⟨by first | omega | exact Nat.le_refl _⟩, ⟨bx_ BK304⟩, ⟨bx_ BK305⟩, ⟨hx_ HB⟩⟩
       ·rw [if_neg c28] at H
        have c28b0 : decide (4096 < (a0_4.size : Int)) = false := decide_eq_false c28
        have c28b1 : decide (4096 < a0_4.size) = false := decide_eq_false (by omega)
        clear c28
        have H' := am_ H
        clear H
        have hnb34 := NB304_305.out
        have hnc34 := NB305_304.out
        have hcz35_0 : w5.cell? ⟨gb304, 0, none⟩ = some (.int .u64 a0_0) := (blk_cell BK304.out 0).trans rfl
        have hcz35_1 : w5.cell? ⟨gb304, 1, none⟩ = some (.int .u64 a0_1) := (blk_cell BK304.out 1).trans rfl
        have hcz35_2 : w5.cell? ⟨gb304, 2, none⟩ = some (.int .u64 a0_2) := (blk_cell BK304.out 2).trans rfl
        have hcz35_3 : w5.cell? ⟨gb304, 3, none⟩ = some (.int .u64 a0_3) := (blk_cell BK304.out 3).trans rfl
        have hcz35_4 : w5.cell? ⟨gb304, 4, none⟩ = some (.string a0_4) := (blk_cell BK304.out 4).trans rfl
        have hcz35_5 : w5.cell? ⟨gb304, 5, none⟩ = some (.slice A0_5 l0_5.length c0_5) := (blk_cell BK304.out 5).trans rfl
        have hfz35_0 := blk_frozen BK304.out 0
        have hfz35_1 := blk_frozen BK304.out 1
        have hfz35_2 := blk_frozen BK304.out 2
        have hfz35_3 := blk_frozen BK304.out 3
        have hfz35_4 := blk_frozen BK304.out 4
        have hfz35_5 := blk_frozen BK304.out 5
        have hcz36_0 : w5.cell? ⟨gb305, 0, none⟩ = some (.int .u64 0) := (blk_cell BK305.out 0).trans rfl
        have hcz36_1 : w5.cell? ⟨gb305, 1, none⟩ = some (.int .u64 0) := (blk_cell BK305.out 1).trans rfl
        have hcz36_2 : w5.cell? ⟨gb305, 2, none⟩ = some (.string (⟨#[]⟩ : ByteArray)) := (blk_cell BK305.out 2).trans rfl
        have hcz36_3 : w5.cell? ⟨gb305, 3, none⟩ = some (.slice none 0 0) := (blk_cell BK305.out 3).trans rfl
        have hfz36_0 := blk_frozen BK305.out 0
        have hfz36_1 := blk_frozen BK305.out 1
        have hfz36_2 := blk_frozen BK305.out 2
        have hfz36_3 := blk_frozen BK305.out 3
        go_wp2_with (first | (go_at_call 54; (with_reducible refine (ferruleref04_Last.calls a0_2 a0_3 a0_4 _ _ l0_5 t306 _ ?side1 ?side2 A22.out).mono ?_); (case side1 => exact Kd.C_below HR0_5.out (hx_ HB)); (case side2 => exact HC0_5.out); rintro e w37 ⟨rfl, hb⟩; have n0_ := am_ (blk_below (g := gb304) (o := .cells #[.int .u64 a0_0, .int .u64 a0_1, .int .u64 a0_2, .int .u64 a0_3, .string a0_4, .slice A0_5 l0_5.length c0_5] 30 (0, 0)) (by (with_reducible repeat (first | refine blk_drewN ?_ _ | refine blk_drew ?_ | refine blk_alloc ?_ _)); refine blk_far ?_ NB304_305.out _; (with_reducible repeat (first | refine blk_drewN ?_ _ | refine blk_drew ?_ | refine blk_alloc ?_ _)); refine blk_far ?_ NB304_305.out _; (with_reducible repeat (first | refine blk_drewN ?_ _ | refine blk_drew ?_ | refine blk_alloc ?_ _)); refine blk_far ?_ NB304_305.out _; (with_reducible repeat (first | refine blk_drewN ?_ _ | refine blk_drew ?_ | refine blk_alloc ?_ _)); refine blk_far ?_ NB304_305.out _; (with_reducible repeat (first | refine blk_drewN ?_ _ | refine blk_drew ?_ | refine blk_alloc ?_ _)); exact BK304.out) hb); have n1_ := am_ (blk_below (g := gb305) (o := .cells #[.int .u64 a0_2, .int .u64 a0_3, .string a0_4, .slice A0_5 l0_5.length c0_5] 28 (0, 0)) (by (with_reducible repeat (first | refine blk_drewN ?_ _ | refine blk_drew ?_ | refine blk_alloc ?_ _)); refine blk_put (cs := #[.int .u64 a0_2, .int .u64 a0_3, .string a0_4, .slice none 0 0]) ?_ 3 _ rfl; (with_reducible repeat (first | refine blk_drewN ?_ _ | refine blk_drew ?_ | refine blk_alloc ?_ _)); refine blk_put (cs := #[.int .u64 a0_2, .int .u64 a0_3, .string (⟨#[]⟩ : ByteArray), .slice none 0 0]) ?_ 2 _ rfl; (with_reducible repeat (first | refine blk_drewN ?_ _ | refine blk_drew ?_ | refine blk_alloc ?_ _)); refine blk_put (cs := #[.int .u64 a0_2, .int .u64 0, .string (⟨#[]⟩ : ByteArray), .slice none 0 0]) ?_ 1 _ rfl; (with_reducible repeat (first | refine blk_drewN ?_ _ | refine blk_drew ?_ | refine blk_alloc ?_ _)); refine blk_put (cs := #[.int .u64 0, .int .u64 0, .string (⟨#[]⟩ : ByteArray), .slice none 0 0]) ?_ 0 _ rfl; (with_reducible repeat (first | refine blk_drewN ?_ _ | refine blk_drew ?_ | refine blk_alloc ?_ _)); exact BK305.out) hb); have n2_ := am_ (below_step (by repeat (first | (with_reducible first | exact HB.out | apply below_alloc | apply pw_below_drewN | apply below_drew1 | refine below_set ?_ GE304.out | refine below_set ?_ GE305.out) | exact HB.out | exact Below.refl _ _)) hb); clear BK304; clear BK305; clear HB; have BK304 := n0_; have BK305 := n1_; have HB := n2_; clear n0_ n1_ n2_; (try clear hb); (try clear hb2); (try clear hk); (try clear hi); have hcz38_0 : w37.cell? ⟨gb305, 0, none⟩ = some (.int .u64 a0_2) := (blk_cell BK305.out 0).trans rfl; have hcz38_1 : w37.cell? ⟨gb305, 1, none⟩ = some (.int .u64 a0_3) := (blk_cell BK305.out 1).trans rfl; have hcz38_2 : w37.cell? ⟨gb305, 2, none⟩ = some (.string a0_4) := (blk_cell BK305.out 2).trans rfl; have hcz38_3 : w37.cell? ⟨gb305, 3, none⟩ = some (.slice A0_5 l0_5.length c0_5) := (blk_cell BK305.out 3).trans rfl; have hfz38_0 := blk_frozen BK305.out 0; have hfz38_1 := blk_frozen BK305.out 1; have hfz38_2 := blk_frozen BK305.out 2; have hfz38_3 := blk_frozen BK305.out 3; have hcz39_0 : w37.cell? ⟨gb304, 0, none⟩ = some (.int .u64 a0_0) := (blk_cell BK304.out 0).trans rfl; have hcz39_1 : w37.cell? ⟨gb304, 1, none⟩ = some (.int .u64 a0_1) := (blk_cell BK304.out 1).trans rfl; have hcz39_2 : w37.cell? ⟨gb304, 2, none⟩ = some (.int .u64 a0_2) := (blk_cell BK304.out 2).trans rfl; have hcz39_3 : w37.cell? ⟨gb304, 3, none⟩ = some (.int .u64 a0_3) := (blk_cell BK304.out 3).trans rfl; have hcz39_4 : w37.cell? ⟨gb304, 4, none⟩ = some (.string a0_4) := (blk_cell BK304.out 4).trans rfl; have hcz39_5 : w37.cell? ⟨gb304, 5, none⟩ = some (.slice A0_5 l0_5.length c0_5) := (blk_cell BK304.out 5).trans rfl; have hfz39_0 := blk_frozen BK304.out 0; have hfz39_1 := blk_frozen BK304.out 1; have hfz39_2 := blk_frozen BK304.out 2; have hfz39_3 := blk_frozen BK304.out 3; have hfz39_4 := blk_frozen BK304.out 4; have hfz39_5 := blk_frozen BK304.out 5))
        repeat (go_quiet (first | (go_at_call 54; (with_reducible refine (ferruleref04_Last.calls a0_2 a0_3 a0_4 _ _ l0_5 t306 _ ?side1 ?side2 A22.out).mono ?_); (case side1 => exact Kd.C_below HR0_5.out (hx_ HB)); (case side2 => exact HC0_5.out); rintro e w37 ⟨rfl, hb⟩; have n0_ := am_ (blk_below (g := gb304) (o := .cells #[.int .u64 a0_0, .int .u64 a0_1, .int .u64 a0_2, .int .u64 a0_3, .string a0_4, .slice A0_5 l0_5.length c0_5] 30 (0, 0)) (by (with_reducible repeat (first | refine blk_drewN ?_ _ | refine blk_drew ?_ | refine blk_alloc ?_ _)); refine blk_far ?_ NB304_305.out _; (with_reducible repeat (first | refine blk_drewN ?_ _ | refine blk_drew ?_ | refine blk_alloc ?_ _)); refine blk_far ?_ NB304_305.out _; (with_reducible repeat (first | refine blk_drewN ?_ _ | refine blk_drew ?_ | refine blk_alloc ?_ _)); refine blk_far ?_ NB304_305.out _; (with_reducible repeat (first | refine blk_drewN ?_ _ | refine blk_drew ?_ | refine blk_alloc ?_ _)); refine blk_far ?_ NB304_305.out _; (with_reducible repeat (first | refine blk_drewN ?_ _ | refine blk_drew ?_ | refine blk_alloc ?_ _)); exact BK304.out) hb); have n1_ := am_ (blk_below (g := gb305) (o := .cells #[.int .u64 a0_2, .int .u64 a0_3, .string a0_4, .slice A0_5 l0_5.length c0_5] 28 (0, 0)) (by (with_reducible repeat (first | refine blk_drewN ?_ _ | refine blk_drew ?_ | refine blk_alloc ?_ _)); refine blk_put (cs := #[.int .u64 a0_2, .int .u64 a0_3, .string a0_4, .slice none 0 0]) ?_ 3 _ rfl; (with_reducible repeat (first | refine blk_drewN ?_ _ | refine blk_drew ?_ | refine blk_alloc ?_ _)); refine blk_put (cs := #[.int .u64 a0_2, .int .u64 a0_3, .string (⟨#[]⟩ : ByteArray), .slice none 0 0]) ?_ 2 _ rfl; (with_reducible repeat (first | refine blk_drewN ?_ _ | refine blk_drew ?_ | refine blk_alloc ?_ _)); refine blk_put (cs := #[.int .u64 a0_2, .int .u64 0, .string (⟨#[]⟩ : ByteArray), .slice none 0 0]) ?_ 1 _ rfl; (with_reducible repeat (first | refine blk_drewN ?_ _ | refine blk_drew ?_ | refine blk_alloc ?_ _)); refine blk_put (cs := #[.int .u64 0, .int .u64 0, .string (⟨#[]⟩ : ByteArray), .slice none 0 0]) ?_ 0 _ rfl; (with_reducible repeat (first | refine blk_drewN ?_ _ | refine blk_drew ?_ | refine blk_alloc ?_ _)); exact BK305.out) hb); have n2_ := am_ (below_step (by repeat (first | (with_reducible first | exact HB.out | apply below_alloc | apply pw_below_drewN | apply below_drew1 | refine below_set ?_ GE304.out | refine below_set ?_ GE305.out) | exact HB.out | exact Below.refl _ _)) hb); clear BK304; clear BK305; clear HB; have BK304 := n0_; have BK305 := n1_; have HB := n2_; clear n0_ n1_ n2_; (try clear hb); (try clear hb2); (try clear hk); (try clear hi); have hcz38_0 : w37.cell? ⟨gb305, 0, none⟩ = some (.int .u64 a0_2) := (blk_cell BK305.out 0).trans rfl; have hcz38_1 : w37.cell? ⟨gb305, 1, none⟩ = some (.int .u64 a0_3) := (blk_cell BK305.out 1).trans rfl; have hcz38_2 : w37.cell? ⟨gb305, 2, none⟩ = some (.string a0_4) := (blk_cell BK305.out 2).trans rfl; have hcz38_3 : w37.cell? ⟨gb305, 3, none⟩ = some (.slice A0_5 l0_5.length c0_5) := (blk_cell BK305.out 3).trans rfl; have hfz38_0 := blk_frozen BK305.out 0; have hfz38_1 := blk_frozen BK305.out 1; have hfz38_2 := blk_frozen BK305.out 2; have hfz38_3 := blk_frozen BK305.out 3; have hcz39_0 : w37.cell? ⟨gb304, 0, none⟩ = some (.int .u64 a0_0) := (blk_cell BK304.out 0).trans rfl; have hcz39_1 : w37.cell? ⟨gb304, 1, none⟩ = some (.int .u64 a0_1) := (blk_cell BK304.out 1).trans rfl; have hcz39_2 : w37.cell? ⟨gb304, 2, none⟩ = some (.int .u64 a0_2) := (blk_cell BK304.out 2).trans rfl; have hcz39_3 : w37.cell? ⟨gb304, 3, none⟩ = some (.int .u64 a0_3) := (blk_cell BK304.out 3).trans rfl; have hcz39_4 : w37.cell? ⟨gb304, 4, none⟩ = some (.string a0_4) := (blk_cell BK304.out 4).trans rfl; have hcz39_5 : w37.cell? ⟨gb304, 5, none⟩ = some (.slice A0_5 l0_5.length c0_5) := (blk_cell BK304.out 5).trans rfl; have hfz39_0 := blk_frozen BK304.out 0; have hfz39_1 := blk_frozen BK304.out 1; have hfz39_2 := blk_frozen BK304.out 2; have hfz39_3 := blk_frozen BK304.out 3; have hfz39_4 := blk_frozen BK304.out 4; have hfz39_5 := blk_frozen BK304.out 5)); try go_wp2_with (first | (go_at_call 54; (with_reducible refine (ferruleref04_Last.calls a0_2 a0_3 a0_4 _ _ l0_5 t306 _ ?side1 ?side2 A22.out).mono ?_); (case side1 => exact Kd.C_below HR0_5.out (hx_ HB)); (case side2 => exact HC0_5.out); rintro e w37 ⟨rfl, hb⟩; have n0_ := am_ (blk_below (g := gb304) (o := .cells #[.int .u64 a0_0, .int .u64 a0_1, .int .u64 a0_2, .int .u64 a0_3, .string a0_4, .slice A0_5 l0_5.length c0_5] 30 (0, 0)) (by (with_reducible repeat (first | refine blk_drewN ?_ _ | refine blk_drew ?_ | refine blk_alloc ?_ _)); refine blk_far ?_ NB304_305.out _; (with_reducible repeat (first | refine blk_drewN ?_ _ | refine blk_drew ?_ | refine blk_alloc ?_ _)); refine blk_far ?_ NB304_305.out _; (with_reducible repeat (first | refine blk_drewN ?_ _ | refine blk_drew ?_ | refine blk_alloc ?_ _)); refine blk_far ?_ NB304_305.out _; (with_reducible repeat (first | refine blk_drewN ?_ _ | refine blk_drew ?_ | refine blk_alloc ?_ _)); refine blk_far ?_ NB304_305.out _; (with_reducible repeat (first | refine blk_drewN ?_ _ | refine blk_drew ?_ | refine blk_alloc ?_ _)); exact BK304.out) hb); have n1_ := am_ (blk_below (g := gb305) (o := .cells #[.int .u64 a0_2, .int .u64 a0_3, .string a0_4, .slice A0_5 l0_5.length c0_5] 28 (0, 0)) (by (with_reducible repeat (first | refine blk_drewN ?_ _ | refine blk_drew ?_ | refine blk_alloc ?_ _)); refine blk_put (cs := #[.int .u64 a0_2, .int .u64 a0_3, .string a0_4, .slice none 0 0]) ?_ 3 _ rfl; (with_reducible repeat (first | refine blk_drewN ?_ _ | refine blk_drew ?_ | refine blk_alloc ?_ _)); refine blk_put (cs := #[.int .u64 a0_2, .int .u64 a0_3, .string (⟨#[]⟩ : ByteArray), .slice none 0 0]) ?_ 2 _ rfl; (with_reducible repeat (first | refine blk_drewN ?_ _ | refine blk_drew ?_ | refine blk_alloc ?_ _)); refine blk_put (cs := #[.int .u64 a0_2, .int .u64 0, .string (⟨#[]⟩ : ByteArray), .slice none 0 0]) ?_ 1 _ rfl; (with_reducible repeat (first | refine blk_drewN ?_ _ | refine blk_drew ?_ | refine blk_alloc ?_ _)); refine blk_put (cs := #[.int .u64 0, .int .u64 0, .string (⟨#[]⟩ : ByteArray), .slice none 0 0]) ?_ 0 _ rfl; (with_reducible repeat (first | refine blk_drewN ?_ _ | refine blk_drew ?_ | refine blk_alloc ?_ _)); exact BK305.out) hb); have n2_ := am_ (below_step (by repeat (first | (with_reducible first | exact HB.out | apply below_alloc | apply pw_below_drewN | apply below_drew1 | refine below_set ?_ GE304.out | refine below_set ?_ GE305.out) | exact HB.out | exact Below.refl _ _)) hb); clear BK304; clear BK305; clear HB; have BK304 := n0_; have BK305 := n1_; have HB := n2_; clear n0_ n1_ n2_; (try clear hb); (try clear hb2); (try clear hk); (try clear hi); have hcz38_0 : w37.cell? ⟨gb305, 0, none⟩ = some (.int .u64 a0_2) := (blk_cell BK305.out 0).trans rfl; have hcz38_1 : w37.cell? ⟨gb305, 1, none⟩ = some (.int .u64 a0_3) := (blk_cell BK305.out 1).trans rfl; have hcz38_2 : w37.cell? ⟨gb305, 2, none⟩ = some (.string a0_4) := (blk_cell BK305.out 2).trans rfl; have hcz38_3 : w37.cell? ⟨gb305, 3, none⟩ = some (.slice A0_5 l0_5.length c0_5) := (blk_cell BK305.out 3).trans rfl; have hfz38_0 := blk_frozen BK305.out 0; have hfz38_1 := blk_frozen BK305.out 1; have hfz38_2 := blk_frozen BK305.out 2; have hfz38_3 := blk_frozen BK305.out 3; have hcz39_0 : w37.cell? ⟨gb304, 0, none⟩ = some (.int .u64 a0_0) := (blk_cell BK304.out 0).trans rfl; have hcz39_1 : w37.cell? ⟨gb304, 1, none⟩ = some (.int .u64 a0_1) := (blk_cell BK304.out 1).trans rfl; have hcz39_2 : w37.cell? ⟨gb304, 2, none⟩ = some (.int .u64 a0_2) := (blk_cell BK304.out 2).trans rfl; have hcz39_3 : w37.cell? ⟨gb304, 3, none⟩ = some (.int .u64 a0_3) := (blk_cell BK304.out 3).trans rfl; have hcz39_4 : w37.cell? ⟨gb304, 4, none⟩ = some (.string a0_4) := (blk_cell BK304.out 4).trans rfl; have hcz39_5 : w37.cell? ⟨gb304, 5, none⟩ = some (.slice A0_5 l0_5.length c0_5) := (blk_cell BK304.out 5).trans rfl; have hfz39_0 := blk_frozen BK304.out 0; have hfz39_1 := blk_frozen BK304.out 1; have hfz39_2 := blk_frozen BK304.out 2; have hfz39_3 := blk_frozen BK304.out 3; have hfz39_4 := blk_frozen BK304.out 4; have hfz39_5 := blk_frozen BK304.out 5)))
        go_meet
        case rel => exact ⟨_, (decide (a0_3 > a0_0)), (by first | rfl | (simp; done) | (simp [*]; done)), H', ⟨by first | omega | exact Nat.le_refl _⟩, ⟨bx_ BK304⟩, ⟨bx_ BK305⟩, ⟨hx_ HB⟩⟩
 case rest =>
  clear HC2
  try clear c1
  try clear c2
  try clear p2
  try clear c3
  try clear c6
  try clear c8
  try clear c8b0
  try clear c9
  try clear c11
  try clear c11b0
  try clear c12
  try clear c14
  try clear c14b0
  try clear c15
  try clear c18
  try clear c18b0
  try clear c18b1
  try clear c19
  try clear c23
  try clear c23b0
  try clear c24
  try clear c25
  try clear c28
  try clear c28b0
  try clear c28b1
  try clear c29
  try clear c34
  try clear hcz10_0
  try clear hcz10_1
  try clear hcz10_2
  try clear hcz10_3
  try clear hcz10_4
  try clear hcz10_5
  try clear hcz13_0
  try clear hcz13_1
  try clear hcz13_2
  try clear hcz13_3
  try clear hcz13_4
  try clear hcz13_5
  try clear hcz16_0
  try clear hcz16_1
  try clear hcz16_2
  try clear hcz16_3
  try clear hcz16_4
  try clear hcz16_5
  try clear hcz17_0
  try clear hcz17_1
  try clear hcz17_2
  try clear hcz17_3
  try clear hcz20_0
  try clear hcz20_1
  try clear hcz20_2
  try clear hcz20_3
  try clear hcz20_4
  try clear hcz20_5
  try clear hcz21_0
  try clear hcz21_1
  try clear hcz21_2
  try clear hcz21_3
  try clear hcz25_0
  try clear hcz25_1
  try clear hcz25_2
  try clear hcz25_3
  try clear hcz25_4
  try clear hcz25_5
  try clear hcz26_0
  try clear hcz26_1
  try clear hcz26_2
  try clear hcz26_3
  try clear hcz30_0
  try clear hcz30_1
  try clear hcz30_2
  try clear hcz30_3
  try clear hcz30_4
  try clear hcz30_5
  try clear hcz31_0
  try clear hcz31_1
  try clear hcz31_2
  try clear hcz31_3
  try clear hcz33_0
  try clear hcz33_1
  try clear hcz33_2
  try clear hcz33_3
  try clear hcz35_0
  try clear hcz35_1
  try clear hcz35_2
  try clear hcz35_3
  try clear hcz35_4
  try clear hcz35_5
  try clear hcz36_0
  try clear hcz36_1
  try clear hcz36_2
  try clear hcz36_3
  try clear hcz38_0
  try clear hcz38_1
  try clear hcz38_2
  try clear hcz38_3
  try clear hcz39_0
  try clear hcz39_1
  try clear hcz39_2
  try clear hcz39_3
  try clear hcz39_4
  try clear hcz39_5
  try clear hcz4_0
  try clear hcz4_1
  try clear hcz4_2
  try clear hcz4_3
  try clear hcz4_4
  try clear hcz4_5
  try clear hcz7_0
  try clear hcz7_1
  try clear hcz7_2
  try clear hcz7_3
  try clear hfz10_0
  try clear hfz10_1
  try clear hfz10_2
  try clear hfz10_3
  try clear hfz10_4
  try clear hfz10_5
  try clear hfz13_0
  try clear hfz13_1
  try clear hfz13_2
  try clear hfz13_3
  try clear hfz13_4
  try clear hfz13_5
  try clear hfz16_0
  try clear hfz16_1
  try clear hfz16_2
  try clear hfz16_3
  try clear hfz16_4
  try clear hfz16_5
  try clear hfz17_0
  try clear hfz17_1
  try clear hfz17_2
  try clear hfz17_3
  try clear hfz20_0
  try clear hfz20_1
  try clear hfz20_2
  try clear hfz20_3
  try clear hfz20_4
  try clear hfz20_5
  try clear hfz21_0
  try clear hfz21_1
  try clear hfz21_2
  try clear hfz21_3
  try clear hfz25_0
  try clear hfz25_1
  try clear hfz25_2
  try clear hfz25_3
  try clear hfz25_4
  try clear hfz25_5
  try clear hfz26_0
  try clear hfz26_1
  try clear hfz26_2
  try clear hfz26_3
  try clear hfz30_0
  try clear hfz30_1
  try clear hfz30_2
  try clear hfz30_3
  try clear hfz30_4
  try clear hfz30_5
  try clear hfz31_0
  try clear hfz31_1
  try clear hfz31_2
  try clear hfz31_3
  try clear hfz33_0
  try clear hfz33_1
  try clear hfz33_2
  try clear hfz33_3
  try clear hfz35_0
  try clear hfz35_1
  try clear hfz35_2
  try clear hfz35_3
  try clear hfz35_4
  try clear hfz35_5
  try clear hfz36_0
  try clear hfz36_1
  try clear hfz36_2
  try clear hfz36_3
  try clear hfz38_0
  try clear hfz38_1
  try clear hfz38_2
  try clear hfz38_3
  try clear hfz39_0
  try clear hfz39_1
  try clear hfz39_2
  try clear hfz39_3
  try clear hfz39_4
  try clear hfz39_5
  try clear hfz4_0
  try clear hfz4_1
  try clear hfz4_2
  try clear hfz4_3
  try clear hfz4_4
  try clear hfz4_5
  try clear hfz7_0
  try clear hfz7_1
  try clear hfz7_2
  try clear hfz7_3
  obtain ⟨kq, x44_1, rfl, HA, HJ1, BK304, BK305, HB⟩ := hcut
  cases kq with
  | zero => exact absurd HA.out (by simp [ferruleref04_May.j0])
  | succ kj1 =>
   have H := HA.out
   clear HA
   simp only [ferruleref04_May.j0] at H
   by_cases c40 : x44_1 = true
   ·subst c40
    have H1 : (some false) = some r := by rw [if_pos rfl] at H; exact H
    clear H
    have H := H1
    clear H1
    obtain rfl := Option.some.inj H
    go_wp2
    repeat (go_quiet (fail); try go_wp2)
    go_ret
    exact ⟨by first | rfl | (simp [errW_none, errW_some] <;> rfl) | (simp [*, errW_none, errW_some] <;> rfl), hx_ HB⟩
   ·replace c40 := Bool.eq_false_iff.mpr c40
    subst c40
    have H1 : (if a0_2 = 0 then (if a0_3 > 0 then (ferruleref04_May.j1 kj1 true a0_0 a0_1 a0_2 a0_3 a0_4 l0_5 a0_2 a0_3 a0_4 l0_5) else (ferruleref04_May.j1 kj1 (decide ((a0_4.size : Int) > 0)) a0_0 a0_1 a0_2 a0_3 a0_4 l0_5 a0_2 a0_3 a0_4 l0_5)) else (ferruleref04_May.j1 kj1 false a0_0 a0_1 a0_2 a0_3 a0_4 l0_5 a0_2 a0_3 a0_4 l0_5)) = some r := by rw [if_neg (show ¬ (false = true) by decide)] at H; exact H
    clear H
    have H := H1
    clear H1
    have HC41 := am_ H
    clear H
    go_upto_region 4 with (fail)
    repeat (go_quiet (fail); go_upto_region 4 with (fail))
    go_cut [63] (fun v63 wc => ∃ (kq : Nat) (x63_40 : Bool), v63 = .bool x63_40 ∧ Aside0 (ferruleref04_May.j1 kq x63_40 a0_0 a0_1 a0_2 a0_3 a0_4 l0_5 a0_2 a0_3 a0_4 l0_5 = some r) ∧ Aside0 (kq ≤ kj1) ∧ Aside0 (wc.heap[gb304]? = some (.cells #[.int .u64 a0_0, .int .u64 a0_1, .int .u64 a0_2, .int .u64 a0_3, .string a0_4, (.slice A0_5 l0_5.length c0_5)] 30 (0, 0))) ∧ Aside0 (wc.heap[gb305]? = some (.cells #[.int .u64 a0_2, .int .u64 a0_3, .string a0_4, (.slice A0_5 l0_5.length c0_5)] 28 (0, 0))) ∧ Aside0 (Below w.heap.size w wc))
    case first =>
     have H := HC41.out
     clear HC41
     by_cases c42 : a0_2 = 0
     ·rw [if_pos c42] at H
      have c42b0 : (a0_2 == 0) = true := beq_iff_eq.mpr c42
      have c42b1 : (a0_2 != 0) = false := bne_eq_false_iff_eq.mpr c42
      clear c42
      (first | rw [c42b0] | (simp only [i64_w, i32_w]; rw [c42b0]) | skip)
      by_cases c43 : a0_3 > 0
      ·rw [if_pos c43] at H
       have c43b0 : decide (0 < a0_3) = true := decide_eq_true c43
       clear c43
       have H' := am_ H
       clear H
       have hnb44 := NB305_304.out
       have hnc44 := NB304_305.out
       have hcz45_0 : wc.cell? ⟨gb305, 0, none⟩ = some (.int .u64 a0_2) := (blk_cell BK305.out 0).trans rfl
       have hcz45_1 : wc.cell? ⟨gb305, 1, none⟩ = some (.int .u64 a0_3) := (blk_cell BK305.out 1).trans rfl
       have hcz45_2 : wc.cell? ⟨gb305, 2, none⟩ = some (.string a0_4) := (blk_cell BK305.out 2).trans rfl
       have hcz45_3 : wc.cell? ⟨gb305, 3, none⟩ = some (.slice A0_5 l0_5.length c0_5) := (blk_cell BK305.out 3).trans rfl
       have hfz45_0 := blk_frozen BK305.out 0
       have hfz45_1 := blk_frozen BK305.out 1
       have hfz45_2 := blk_frozen BK305.out 2
       have hfz45_3 := blk_frozen BK305.out 3
       go_wp2
       repeat (go_quiet (fail); try go_wp2)
       go_meet
       case rel => exact ⟨_, (true), (by first | rfl | (simp; done) | (simp [*]; done)), H', ⟨by have := HJ1.out; first | omega | exact Nat.le_refl _⟩, ⟨bx_ BK304⟩, ⟨bx_ BK305⟩, ⟨hx_ HB⟩⟩
      ·rw [if_neg c43] at H
       have c43b0 : decide (0 < a0_3) = false := decide_eq_false c43
       clear c43
       have H' := am_ H
       clear H
       have hnb46 := NB305_304.out
       have hnc46 := NB304_305.out
       have hcz47_0 : wc.cell? ⟨gb305, 0, none⟩ = some (.int .u64 a0_2) := (blk_cell BK305.out 0).trans rfl
       have hcz47_1 : wc.cell? ⟨gb305, 1, none⟩ = some (.int .u64 a0_3) := (blk_cell BK305.out 1).trans rfl
       have hcz47_2 : wc.cell? ⟨gb305, 2, none⟩ = some (.string a0_4) := (blk_cell BK305.out 2).trans rfl
       have hcz47_3 : wc.cell? ⟨gb305, 3, none⟩ = some (.slice A0_5 l0_5.length c0_5) := (blk_cell BK305.out 3).trans rfl
       have hfz47_0 := blk_frozen BK305.out 0
       have hfz47_1 := blk_frozen BK305.out 1
       have hfz47_2 := blk_frozen BK305.out 2
       have hfz47_3 := blk_frozen BK305.out 3
       go_wp2
       repeat (go_quiet (fail); try go_wp2)
       go_meet
       case rel => exact ⟨_, (decide ((a0_4.size : Int) > 0)), (by first | rfl | (simp; done) | (simp [*]; done)), H', ⟨by have := HJ1.out; first | omega | exact Nat.le_refl _⟩, ⟨bx_ BK304⟩, ⟨bx_ BK305⟩, ⟨hx_ HB⟩⟩
     ·rw [if_neg c42] at H
      have c42b0 : (a0_2 == 0) = false := beq_eq_false_iff_ne.mpr c42
      have c42b1 : (a0_2 != 0) = true := bne_iff_ne.mpr c42
      (first | rw [c42b0] | (simp only [i64_w, i32_w]; rw [c42b0]) | skip)
      have H' := am_ H
      clear H
      have hnb48 := NB305_304.out
      have hnc48 := NB304_305.out
      have hcz49_0 : wc.cell? ⟨gb305, 0, none⟩ = some (.int .u64 a0_2) := (blk_cell BK305.out 0).trans rfl
      have hcz49_1 : wc.cell? ⟨gb305, 1, none⟩ = some (.int .u64 a0_3) := (blk_cell BK305.out 1).trans rfl
      have hcz49_2 : wc.cell? ⟨gb305, 2, none⟩ = some (.string a0_4) := (blk_cell BK305.out 2).trans rfl
      have hcz49_3 : wc.cell? ⟨gb305, 3, none⟩ = some (.slice A0_5 l0_5.length c0_5) := (blk_cell BK305.out 3).trans rfl
      have hfz49_0 := blk_frozen BK305.out 0
      have hfz49_1 := blk_frozen BK305.out 1
      have hfz49_2 := blk_frozen BK305.out 2
      have hfz49_3 := blk_frozen BK305.out 3
      go_wp2
      repeat (go_quiet (fail); try go_wp2)
      go_meet
      case rel => exact ⟨_, (false), (by first | rfl | (simp; done) | (simp [*]; done)), H', ⟨by have := HJ1.out; first | omega | exact Nat.le_refl _⟩, ⟨bx_ BK304⟩, ⟨bx_ BK305⟩, ⟨hx_ HB⟩⟩
    case rest =>
     clear HC41
     try clear c1
     try clear c2
     try clear p2
     try clear c3
     try clear c4
     try clear c6
     try clear c8
     try clear c8b0
     try clear c9
     try clear c11
     try clear c11b0
     try clear c12
     try clear c14
     try clear c14b0
     try clear c15
     try clear c18
     try clear c18b0
     try clear c18b1
     try clear c19
     try clear c23
     try clear c23b0
     try clear c24
     try clear c25
     try clear c28
     try clear c28b0
     try clear c28b1
     try clear c29
     try clear c34
     try clear c40
     try clear c42
     try clear c42b0
     try clear c42b1
     try clear c43
     try clear c43b0
     try clear c44
     try clear c46
     try clear c48
     try clear hcz10_0
     try clear hcz10_1
     try clear hcz10_2
     try clear hcz10_3
     try clear hcz10_4
     try clear hcz10_5
     try clear hcz13_0
     try clear hcz13_1
     try clear hcz13_2
     try clear hcz13_3
     try clear hcz13_4
     try clear hcz13_5
     try clear hcz16_0
     try clear hcz16_1
     try clear hcz16_2
     try clear hcz16_3
     try clear hcz16_4
     try clear hcz16_5
     try clear hcz17_0
     try clear hcz17_1
     try clear hcz17_2
     try clear hcz17_3
     try clear hcz20_0
     try clear hcz20_1
     try clear hcz20_2
     try clear hcz20_3
     try clear hcz20_4
     try clear hcz20_5
     try clear hcz21_0
     try clear hcz21_1
     try clear hcz21_2
     try clear hcz21_3
     try clear hcz25_0
     try clear hcz25_1
     try clear hcz25_2
     try clear hcz25_3
     try clear hcz25_4
     try clear hcz25_5
     try clear hcz26_0
     try clear hcz26_1
     try clear hcz26_2
     try clear hcz26_3
     try clear hcz30_0
     try clear hcz30_1
     try clear hcz30_2
     try clear hcz30_3
     try clear hcz30_4
     try clear hcz30_5
     try clear hcz31_0
     try clear hcz31_1
     try clear hcz31_2
     try clear hcz31_3
     try clear hcz33_0
     try clear hcz33_1
     try clear hcz33_2
     try clear hcz33_3
     try clear hcz35_0
     try clear hcz35_1
     try clear hcz35_2
     try clear hcz35_3
     try clear hcz35_4
     try clear hcz35_5
     try clear hcz36_0
     try clear hcz36_1
     try clear hcz36_2
     try clear hcz36_3
     try clear hcz38_0
     try clear hcz38_1
     try clear hcz38_2
     try clear hcz38_3
     try clear hcz39_0
     try clear hcz39_1
     try clear hcz39_2
     try clear hcz39_3
     try clear hcz39_4
     try clear hcz39_5
     try clear hcz45_0
     try clear hcz45_1
     try clear hcz45_2
     try clear hcz45_3
     try clear hcz47_0
     try clear hcz47_1
     try clear hcz47_2
     try clear hcz47_3
     try clear hcz49_0
     try clear hcz49_1
     try clear hcz49_2
     try clear hcz49_3
     try clear hcz4_0
     try clear hcz4_1
     try clear hcz4_2
     try clear hcz4_3
     try clear hcz4_4
     try clear hcz4_5
     try clear hcz7_0
     try clear hcz7_1
     try clear hcz7_2
     try clear hcz7_3
     try clear hfz10_0
     try clear hfz10_1
     try clear hfz10_2
     try clear hfz10_3
     try clear hfz10_4
     try clear hfz10_5
     try clear hfz13_0
     try clear hfz13_1
     try clear hfz13_2
     try clear hfz13_3
     try clear hfz13_4
     try clear hfz13_5
     try clear hfz16_0
     try clear hfz16_1
     try clear hfz16_2
     try clear hfz16_3
     try clear hfz16_4
     try clear hfz16_5
     try clear hfz17_0
     try clear hfz17_1
     try clear hfz17_2
     try clear hfz17_3
     try clear hfz20_0
     try clear hfz20_1
     try clear hfz20_2
     try clear hfz20_3
     try clear hfz20_4
     try clear hfz20_5
     try clear hfz21_0
     try clear hfz21_1
     try clear hfz21_2
     try clear hfz21_3
     try clear hfz25_0
     try clear hfz25_1
     try clear hfz25_2
     try clear hfz25_3
     try clear hfz25_4
     try clear hfz25_5
     try clear hfz26_0
     try clear hfz26_1
     try clear hfz26_2
     try clear hfz26_3
     try clear hfz30_0
     try clear hfz30_1
     try clear hfz30_2
     try clear hfz30_3
     try clear hfz30_4
     try clear hfz30_5
     try clear hfz31_0
     try clear hfz31_1
     try clear hfz31_2
     try clear hfz31_3
     try clear hfz33_0
     try clear hfz33_1
     try clear hfz33_2
     try clear hfz33_3
     try clear hfz35_0
     try clear hfz35_1
     try clear hfz35_2
     try clear hfz35_3
     try clear hfz35_4
     try clear hfz35_5
     try clear hfz36_0
     try clear hfz36_1
     try clear hfz36_2
     try clear hfz36_3
     try clear hfz38_0
     try clear hfz38_1
     try clear hfz38_2
     try clear hfz38_3
     try clear hfz39_0
     try clear hfz39_1
     try clear hfz39_2
     try clear hfz39_3
     try clear hfz39_4
     try clear hfz39_5
     try clear hfz45_0
     try clear hfz45_1
     try clear hfz45_2
     try clear hfz45_3
     try clear hfz47_0
     try clear hfz47_1
     try clear hfz47_2
     try clear hfz47_3
     try clear hfz49_0
     try clear hfz49_1
     try clear hfz49_2
     try clear hfz49_3
     try clear hfz4_0
     try clear hfz4_1
     try clear hfz4_2
     try clear hfz4_3
     try clear hfz4_4
     try clear hfz4_5
     try clear hfz7_0
     try clear hfz7_1
     try clear hfz7_2
     try clear hfz7_3
     try clear p2
     obtain ⟨kq, x63_40, rfl, HA, HJ40, BK304, BK305, HB⟩ := hcut
     cases kq with
     | zero => exact absurd HA.out (by simp [ferruleref04_May.j1])
     | succ kj40 =>
      have H := HA.out
      clear HA
      simp only [ferruleref04_May.j1] at H
      by_cases c50 : x63_40 = true
      ·subst c50
       have H1 : (some false) = some r := by rw [if_pos rfl] at H; exact H
       clear H
       have H := H1
       clear H1
       obtain rfl := Option.some.inj H
       go_wp2
       repeat (go_quiet (fail); try go_wp2)
       go_ret
       exact ⟨by first | rfl | (simp [errW_none, errW_some] <;> rfl) | (simp [*, errW_none, errW_some] <;> rfl), hx_ HB⟩
      ·replace c50 := Bool.eq_false_iff.mpr c50
       subst c50
       have H1 : (ferruleref04_May.l0 kj40 0 a0_0 a0_1 a0_2 a0_3 a0_4 l0_5 a0_2 a0_3 a0_4 l0_5) = some r := by rw [if_neg (show ¬ (false = true) by decide)] at H; exact H
       clear H
       have H := H1
       clear H1
       have H' := am_ H
       clear H
       go_wp2
       repeat (go_quiet (fail); try go_wp2)
       go_loopg [4] kj40 (fun kq v4 w' => ∃ (x4_3 : Int), v4 = .int .i64 x4_3 ∧ Aside0 (ferruleref04_May.l0 kq x4_3 a0_0 a0_1 a0_2 a0_3 a0_4 l0_5 a0_2 a0_3 a0_4 l0_5 = some r) ∧ Aside0 (kq ≤ kj40) ∧ Aside0 (w'.heap[gb304]? = some (.cells #[.int .u64 a0_0, .int .u64 a0_1, .int .u64 a0_2, .int .u64 a0_3, .string a0_4, (.slice A0_5 l0_5.length c0_5)] 30 (0, 0))) ∧ Aside0 (w'.heap[gb305]? = some (.cells #[.int .u64 a0_2, .int .u64 a0_3, .string a0_4, (.slice A0_5 l0_5.length c0_5)] 28 (0, 0))) ∧ Aside0 (Below w.heap.size w w'))
       case atStart => exact ⟨(0), (by first | rfl | (simp; done) | (simp [*]; done)), H', ⟨Nat.le_refl _⟩, ⟨bx_ BK304⟩, ⟨bx_ BK305⟩, ⟨hx_ HB⟩⟩
       case round =>
        clear H'
        try clear c1
        try clear c2
        try clear p2
        try clear c3
        try clear c4
        try clear c5
        try clear c6
        try clear c8
        try clear c8b0
        try clear c9
        try clear c11
        try clear c11b0
        try clear c12
        try clear c14
        try clear c14b0
        try clear c15
        try clear c18
        try clear c18b0
        try clear c18b1
        try clear c19
        try clear c23
        try clear c23b0
        try clear c24
        try clear c25
        try clear c28
        try clear c28b0
        try clear c28b1
        try clear c29
        try clear c34
        try clear c40
        try clear c42
        try clear c42b0
        try clear c42b1
        try clear c43
        try clear c43b0
        try clear c44
        try clear c46
        try clear c48
        try clear c50
        try clear hcz10_0
        try clear hcz10_1
        try clear hcz10_2
        try clear hcz10_3
        try clear hcz10_4
        try clear hcz10_5
        try clear hcz13_0
        try clear hcz13_1
        try clear hcz13_2
        try clear hcz13_3
        try clear hcz13_4
        try clear hcz13_5
        try clear hcz16_0
        try clear hcz16_1
        try clear hcz16_2
        try clear hcz16_3
        try clear hcz16_4
        try clear hcz16_5
        try clear hcz17_0
        try clear hcz17_1
        try clear hcz17_2
        try clear hcz17_3
        try clear hcz20_0
        try clear hcz20_1
        try clear hcz20_2
        try clear hcz20_3
        try clear hcz20_4
        try clear hcz20_5
        try clear hcz21_0
        try clear hcz21_1
        try clear hcz21_2
        try clear hcz21_3
        try clear hcz25_0
        try clear hcz25_1
        try clear hcz25_2
        try clear hcz25_3
        try clear hcz25_4
        try clear hcz25_5
        try clear hcz26_0
        try clear hcz26_1
        try clear hcz26_2
        try clear hcz26_3
        try clear hcz30_0
        try clear hcz30_1
        try clear hcz30_2
        try clear hcz30_3
        try clear hcz30_4
        try clear hcz30_5
        try clear hcz31_0
        try clear hcz31_1
        try clear hcz31_2
        try clear hcz31_3
        try clear hcz33_0
        try clear hcz33_1
        try clear hcz33_2
        try clear hcz33_3
        try clear hcz35_0
        try clear hcz35_1
        try clear hcz35_2
        try clear hcz35_3
        try clear hcz35_4
        try clear hcz35_5
        try clear hcz36_0
        try clear hcz36_1
        try clear hcz36_2
        try clear hcz36_3
        try clear hcz38_0
        try clear hcz38_1
        try clear hcz38_2
        try clear hcz38_3
        try clear hcz39_0
        try clear hcz39_1
        try clear hcz39_2
        try clear hcz39_3
        try clear hcz39_4
        try clear hcz39_5
        try clear hcz45_0
        try clear hcz45_1
        try clear hcz45_2
        try clear hcz45_3
        try clear hcz47_0
        try clear hcz47_1
        try clear hcz47_2
        try clear hcz47_3
        try clear hcz49_0
        try clear hcz49_1
        try clear hcz49_2
        try clear hcz49_3
        try clear hcz4_0
        try clear hcz4_1
        try clear hcz4_2
        try clear hcz4_3
        try clear hcz4_4
        try clear hcz4_5
        try clear hcz7_0
        try clear hcz7_1
        try clear hcz7_2
        try clear hcz7_3
        try clear hfz10_0
        try clear hfz10_1
        try clear hfz10_2
        try clear hfz10_3
        try clear hfz10_4
        try clear hfz10_5
        try clear hfz13_0
        try clear hfz13_1
        try clear hfz13_2
        try clear hfz13_3
        try clear hfz13_4
        try clear hfz13_5
        try clear hfz16_0
        try clear hfz16_1
        try clear hfz16_2
        try clear hfz16_3
        try clear hfz16_4
        try clear hfz16_5
        try clear hfz17_0
        try clear hfz17_1
        try clear hfz17_2
        try clear hfz17_3
        try clear hfz20_0
        try clear hfz20_1
        try clear hfz20_2
        try clear hfz20_3
        try clear hfz20_4
        try clear hfz20_5
        try clear hfz21_0
        try clear hfz21_1
        try clear hfz21_2
        try clear hfz21_3
        try clear hfz25_0
        try clear hfz25_1
        try clear hfz25_2
        try clear hfz25_3
        try clear hfz25_4
        try clear hfz25_5
        try clear hfz26_0
        try clear hfz26_1
        try clear hfz26_2
        try clear hfz26_3
        try clear hfz30_0
        try clear hfz30_1
        try clear hfz30_2
        try clear hfz30_3
        try clear hfz30_4
        try clear hfz30_5
        try clear hfz31_0
        try clear hfz31_1
        try clear hfz31_2
        try clear hfz31_3
        try clear hfz33_0
        try clear hfz33_1
        try clear hfz33_2
        try clear hfz33_3
        try clear hfz35_0
        try clear hfz35_1
        try clear hfz35_2
        try clear hfz35_3
        try clear hfz35_4
        try clear hfz35_5
        try clear hfz36_0
        try clear hfz36_1
        try clear hfz36_2
        try clear hfz36_3
        try clear hfz38_0
        try clear hfz38_1
        try clear hfz38_2
        try clear hfz38_3
        try clear hfz39_0
        try clear hfz39_1
        try clear hfz39_2
        try clear hfz39_3
        try clear hfz39_4
        try clear hfz39_5
        try clear hfz45_0
        try clear hfz45_1
        try clear hfz45_2
        try clear hfz45_3
        try clear hfz47_0
        try clear hfz47_1
        try clear hfz47_2
        try clear hfz47_3
        try clear hfz49_0
        try clear hfz49_1
        try clear hfz49_2
        try clear hfz49_3
        try clear hfz4_0
        try clear hfz4_1
        try clear hfz4_2
        try clear hfz4_3
        try clear hfz4_4
        try clear hfz4_5
        try clear hfz7_0
        try clear hfz7_1
        try clear hfz7_2
        try clear hfz7_3
        try clear p2
        obtain ⟨x4_3, rfl, HA, HK3, BK304, BK305, HB⟩ := hrel
        cases gk with
        | zero => exact absurd HA.out (by simp [ferruleref04_May.l0])
        | succ k3 =>
         have H := HA.out
         clear HA
         simp only [ferruleref04_May.l0] at H
         by_cases c51 : x4_3 < (l0_5.length : Int)
         ·rw [if_pos c51] at H
          have c51b0 : decide (x4_3 < (l0_5.length : Int)) = true := decide_eq_true c51
          clear c51
          by_cases c52 : 0 ≤ x4_3
          ·rw [if_pos c52] at H
           have c52b0 : decide (0 ≤ x4_3) = true := decide_eq_true c52
           clear c52
           by_cases c53 : ((rd_T75 l0_5 x4_3).f0) > a0_0
           ·rw [if_pos c53] at H
            have c53b0 : decide (a0_0 < ((rd_T75 l0_5 x4_3).f0)) = true := decide_eq_true c53
            clear c53
            obtain rfl := Option.some.inj H
            have hnb54 := NB305_304.out
            have hnc54 := NB304_305.out
            have hcz55_0 : wr.cell? ⟨gb305, 0, none⟩ = some (.int .u64 a0_2) := (blk_cell BK305.out 0).trans rfl
            have hcz55_1 : wr.cell? ⟨gb305, 1, none⟩ = some (.int .u64 a0_3) := (blk_cell BK305.out 1).trans rfl
            have hcz55_2 : wr.cell? ⟨gb305, 2, none⟩ = some (.string a0_4) := (blk_cell BK305.out 2).trans rfl
            have hcz55_3 : wr.cell? ⟨gb305, 3, none⟩ = some (.slice A0_5 l0_5.length c0_5) := (blk_cell BK305.out 3).trans rfl
            have hfz55_0 := blk_frozen BK305.out 0
            have hfz55_1 := blk_frozen BK305.out 1
            have hfz55_2 := blk_frozen BK305.out 2
            have hfz55_3 := blk_frozen BK305.out 3
            have p307 : 0 ≤ (x4_3 : Int) := of_decide_eq_true (by first | (with_reducible assumption) | assumption)
            have q307 : x4_3 < (l0_5.length : Int) := of_decide_eq_true (by first | (with_reducible assumption) | assumption)
            obtain ⟨ad307, e307, hx307_0, hx307_1⟩ := at_T75 HR0_5.out x4_3 p307 q307
            cases e307
            replace hx307_0 := (HB.out.cell (World.block_lt_of_cell? w _ hx307_0)).trans hx307_0
            replace hx307_1 := (HB.out.cell (World.block_lt_of_cell? w _ hx307_1)).trans hx307_1
            replace p307 := eq_true p307
            replace q307 := eq_true q307
            go_wp2_with (first | ((with_reducible refine gate_dst (N := 5) rfl ?_); (try (refine gate_guard (by rfl) ?_; dsimp only)); refine box_event ?hg (N := 5) ?hd (cs := #[.int .u64 0, .string (⟨#[]⟩ : ByteArray)]) (t := 75) ?hr ?_; (case hd => rfl); (case hg => rfl); (case hr => first | (go_simp; done) | (go_simp; rfl)); intro gb308 hg w56 hbox hb; have n0_ := am_ (blk_below (g := gb304) (o := .cells #[.int .u64 a0_0, .int .u64 a0_1, .int .u64 a0_2, .int .u64 a0_3, .string a0_4, .slice (some ad307) l0_5.length c0_5] 30 (0, 0)) (bx_ BK304) hb); have n1_ := am_ (blk_below (g := gb305) (o := .cells #[.int .u64 a0_2, .int .u64 a0_3, .string a0_4, .slice (some ad307) l0_5.length c0_5] 28 (0, 0)) (bx_ BK305) hb); have n2_ := am_ (below_step (by repeat (first | (with_reducible first | exact HB.out | apply below_alloc | apply pw_below_drewN | apply below_drew1 | refine below_set ?_ GE304.out | refine below_set ?_ GE305.out) | exact HB.out | exact Below.refl _ _)) hb); have n3_ := am_ (hbox); have n4_ := am_ ((by rw [hg]; exact (below_size (hx_ HB)) : w.heap.size ≤ gb308)); have n5_ := am_ ((by rw [hg]; exact (below_size (hx_ HB)) : w.heap.size ≤ gb308)); have n6_ := am_ ((by rw [hg]; exact Nat.ne_of_lt (blk_lt (g := gb304) (o := .cells #[.int .u64 a0_0, .int .u64 a0_1, .int .u64 a0_2, .int .u64 a0_3, .string a0_4, .slice (some ad307) l0_5.length c0_5] 30 (0, 0)) (bx_ BK304)) : gb304 ≠ gb308)); have n7_ := am_ ((by rw [hg]; exact Nat.ne_of_gt (blk_lt (g := gb304) (o := .cells #[.int .u64 a0_0, .int .u64 a0_1, .int .u64 a0_2, .int .u64 a0_3, .string a0_4, .slice (some ad307) l0_5.length c0_5] 30 (0, 0)) (bx_ BK304)) : gb308 ≠ gb304)); have n8_ := am_ ((by rw [hg]; exact Nat.ne_of_lt (blk_lt (g := gb305) (o := .cells #[.int .u64 a0_2, .int .u64 a0_3, .string a0_4, .slice (some ad307) l0_5.length c0_5] 28 (0, 0)) (bx_ BK305)) : gb305 ≠ gb308)); have n9_ := am_ ((by rw [hg]; exact Nat.ne_of_gt (blk_lt (g := gb305) (o := .cells #[.int .u64 a0_2, .int .u64 a0_3, .string a0_4, .slice (some ad307) l0_5.length c0_5] 28 (0, 0)) (bx_ BK305)) : gb308 ≠ gb305)); clear BK304; clear BK305; clear HB; have BK304 := n0_; have BK305 := n1_; have HB := n2_; have BK308 := n3_; have GW308 := n4_; have GE308 := n5_; have NB304_308 := n6_; have NB308_304 := n7_; have NB305_308 := n8_; have NB308_305 := n9_; clear n0_ n1_ n2_ n3_ n4_ n5_ n6_ n7_ n8_ n9_; clear hb hbox hg; have hnb57 := NB308_304.out; have hnc57 := NB304_308.out; have hnb58 := NB308_305.out; have hnc58 := NB305_308.out; have hcz59_0 : w56.cell? ⟨gb308, 0, none⟩ = some (.int .u64 0) := (blk_cell BK308.out 0).trans rfl; have hcz59_1 : w56.cell? ⟨gb308, 1, none⟩ = some (.string (⟨#[]⟩ : ByteArray)) := (blk_cell BK308.out 1).trans rfl; have hfz59_0 := blk_frozen BK308.out 0; have hfz59_1 := blk_frozen BK308.out 1; have hcz60_0 : w56.cell? ⟨gb304, 0, none⟩ = some (.int .u64 a0_0) := (blk_cell BK304.out 0).trans rfl; have hcz60_1 : w56.cell? ⟨gb304, 1, none⟩ = some (.int .u64 a0_1) := (blk_cell BK304.out 1).trans rfl; have hcz60_2 : w56.cell? ⟨gb304, 2, none⟩ = some (.int .u64 a0_2) := (blk_cell BK304.out 2).trans rfl; have hcz60_3 : w56.cell? ⟨gb304, 3, none⟩ = some (.int .u64 a0_3) := (blk_cell BK304.out 3).trans rfl; have hcz60_4 : w56.cell? ⟨gb304, 4, none⟩ = some (.string a0_4) := (blk_cell BK304.out 4).trans rfl; have hcz60_5 : w56.cell? ⟨gb304, 5, none⟩ = some (.slice (some ad307) l0_5.length c0_5) := (blk_cell BK304.out 5).trans rfl; have hfz60_0 := blk_frozen BK304.out 0; have hfz60_1 := blk_frozen BK304.out 1; have hfz60_2 := blk_frozen BK304.out 2; have hfz60_3 := blk_frozen BK304.out 3; have hfz60_4 := blk_frozen BK304.out 4; have hfz60_5 := blk_frozen BK304.out 5))
            repeat (go_quiet (first | ((with_reducible refine gate_dst (N := 5) rfl ?_); (try (refine gate_guard (by rfl) ?_; dsimp only)); refine box_event ?hg (N := 5) ?hd (cs := #[.int .u64 0, .string (⟨#[]⟩ : ByteArray)]) (t := 75) ?hr ?_; (case hd => rfl); (case hg => rfl); (case hr => first | (go_simp; done) | (go_simp; rfl)); intro gb308 hg w56 hbox hb; have n0_ := am_ (blk_below (g := gb304) (o := .cells #[.int .u64 a0_0, .int .u64 a0_1, .int .u64 a0_2, .int .u64 a0_3, .string a0_4, .slice (some ad307) l0_5.length c0_5] 30 (0, 0)) (bx_ BK304) hb); have n1_ := am_ (blk_below (g := gb305) (o := .cells #[.int .u64 a0_2, .int .u64 a0_3, .string a0_4, .slice (some ad307) l0_5.length c0_5] 28 (0, 0)) (bx_ BK305) hb); have n2_ := am_ (below_step (by repeat (first | (with_reducible first | exact HB.out | apply below_alloc | apply pw_below_drewN | apply below_drew1 | refine below_set ?_ GE304.out | refine below_set ?_ GE305.out) | exact HB.out | exact Below.refl _ _)) hb); have n3_ := am_ (hbox); have n4_ := am_ ((by rw [hg]; exact (below_size (hx_ HB)) : w.heap.size ≤ gb308)); have n5_ := am_ ((by rw [hg]; exact (below_size (hx_ HB)) : w.heap.size ≤ gb308)); have n6_ := am_ ((by rw [hg]; exact Nat.ne_of_lt (blk_lt (g := gb304) (o := .cells #[.int .u64 a0_0, .int .u64 a0_1, .int .u64 a0_2, .int .u64 a0_3, .string a0_4, .slice (some ad307) l0_5.length c0_5] 30 (0, 0)) (bx_ BK304)) : gb304 ≠ gb308)); have n7_ := am_ ((by rw [hg]; exact Nat.ne_of_gt (blk_lt (g := gb304) (o := .cells #[.int .u64 a0_0, .int .u64 a0_1, .int .u64 a0_2, .int .u64 a0_3, .string a0_4, .slice (some ad307) l0_5.length c0_5] 30 (0, 0)) (bx_ BK304)) : gb308 ≠ gb304)); have n8_ := am_ ((by rw [hg]; exact Nat.ne_of_lt (blk_lt (g := gb305) (o := .cells #[.int .u64 a0_2, .int .u64 a0_3, .string a0_4, .slice (some ad307) l0_5.length c0_5] 28 (0, 0)) (bx_ BK305)) : gb305 ≠ gb308)); have n9_ := am_ ((by rw [hg]; exact Nat.ne_of_gt (blk_lt (g := gb305) (o := .cells #[.int .u64 a0_2, .int .u64 a0_3, .string a0_4, .slice (some ad307) l0_5.length c0_5] 28 (0, 0)) (bx_ BK305)) : gb308 ≠ gb305)); clear BK304; clear BK305; clear HB; have BK304 := n0_; have BK305 := n1_; have HB := n2_; have BK308 := n3_; have GW308 := n4_; have GE308 := n5_; have NB304_308 := n6_; have NB308_304 := n7_; have NB305_308 := n8_; have NB308_305 := n9_; clear n0_ n1_ n2_ n3_ n4_ n5_ n6_ n7_ n8_ n9_; clear hb hbox hg; have hnb57 := NB308_304.out; have hnc57 := NB304_308.out; have hnb58 := NB308_305.out; have hnc58 := NB305_308.out; have hcz59_0 : w56.cell? ⟨gb308, 0, none⟩ = some (.int .u64 0) := (blk_cell BK308.out 0).trans rfl; have hcz59_1 : w56.cell? ⟨gb308, 1, none⟩ = some (.string (⟨#[]⟩ : ByteArray)) := (blk_cell BK308.out 1).trans rfl; have hfz59_0 := blk_frozen BK308.out 0; have hfz59_1 := blk_frozen BK308.out 1; have hcz60_0 : w56.cell? ⟨gb304, 0, none⟩ = some (.int .u64 a0_0) := (blk_cell BK304.out 0).trans rfl; have hcz60_1 : w56.cell? ⟨gb304, 1, none⟩ = some (.int .u64 a0_1) := (blk_cell BK304.out 1).trans rfl; have hcz60_2 : w56.cell? ⟨gb304, 2, none⟩ = some (.int .u64 a0_2) := (blk_cell BK304.out 2).trans rfl; have hcz60_3 : w56.cell? ⟨gb304, 3, none⟩ = some (.int .u64 a0_3) := (blk_cell BK304.out 3).trans rfl; have hcz60_4 : w56.cell? ⟨gb304, 4, none⟩ = some (.string a0_4) := (blk_cell BK304.out 4).trans rfl; have hcz60_5 : w56.cell? ⟨gb304, 5, none⟩ = some (.slice (some ad307) l0_5.length c0_5) := (blk_cell BK304.out 5).trans rfl; have hfz60_0 := blk_frozen BK304.out 0; have hfz60_1 := blk_frozen BK304.out 1; have hfz60_2 := blk_frozen BK304.out 2; have hfz60_3 := blk_frozen BK304.out 3; have hfz60_4 := blk_frozen BK304.out 4; have hfz60_5 := blk_frozen BK304.out 5)); try go_wp2_with (first | ((with_reducible refine gate_dst (N := 5) rfl ?_); (try (refine gate_guard (by rfl) ?_; dsimp only)); refine box_event ?hg (N := 5) ?hd (cs := #[.int .u64 0, .string (⟨#[]⟩ : ByteArray)]) (t := 75) ?hr ?_; (case hd => rfl); (case hg => rfl); (case hr => first | (go_simp; done) | (go_simp; rfl)); intro gb308 hg w56 hbox hb; have n0_ := am_ (blk_below (g := gb304) (o := .cells #[.int .u64 a0_0, .int .u64 a0_1, .int .u64 a0_2, .int .u64 a0_3, .string a0_4, .slice (some ad307) l0_5.length c0_5] 30 (0, 0)) (bx_ BK304) hb); have n1_ := am_ (blk_below (g := gb305) (o := .cells #[.int .u64 a0_2, .int .u64 a0_3, .string a0_4, .slice (some ad307) l0_5.length c0_5] 28 (0, 0)) (bx_ BK305) hb); have n2_ := am_ (below_step (by repeat (first | (with_reducible first | exact HB.out | apply below_alloc | apply pw_below_drewN | apply below_drew1 | refine below_set ?_ GE304.out | refine below_set ?_ GE305.out) | exact HB.out | exact Below.refl _ _)) hb); have n3_ := am_ (hbox); have n4_ := am_ ((by rw [hg]; exact (below_size (hx_ HB)) : w.heap.size ≤ gb308)); have n5_ := am_ ((by rw [hg]; exact (below_size (hx_ HB)) : w.heap.size ≤ gb308)); have n6_ := am_ ((by rw [hg]; exact Nat.ne_of_lt (blk_lt (g := gb304) (o := .cells #[.int .u64 a0_0, .int .u64 a0_1, .int .u64 a0_2, .int .u64 a0_3, .string a0_4, .slice (some ad307) l0_5.length c0_5] 30 (0, 0)) (bx_ BK304)) : gb304 ≠ gb308)); have n7_ := am_ ((by rw [hg]; exact Nat.ne_of_gt (blk_lt (g := gb304) (o := .cells #[.int .u64 a0_0, .int .u64 a0_1, .int .u64 a0_2, .int .u64 a0_3, .string a0_4, .slice (some ad307) l0_5.length c0_5] 30 (0, 0)) (bx_ BK304)) : gb308 ≠ gb304)); have n8_ := am_ ((by rw [hg]; exact Nat.ne_of_lt (blk_lt (g := gb305) (o := .cells #[.int .u64 a0_2, .int .u64 a0_3, .string a0_4, .slice (some ad307) l0_5.length c0_5] 28 (0, 0)) (bx_ BK305)) : gb305 ≠ gb308)); have n9_ := am_ ((by rw [hg]; exact Nat.ne_of_gt (blk_lt (g := gb305) (o := .cells #[.int .u64 a0_2, .int .u64 a0_3, .string a0_4, .slice (some ad307) l0_5.length c0_5] 28 (0, 0)) (bx_ BK305)) : gb308 ≠ gb305)); clear BK304; clear BK305; clear HB; have BK304 := n0_; have BK305 := n1_; have HB := n2_; have BK308 := n3_; have GW308 := n4_; have GE308 := n5_; have NB304_308 := n6_; have NB308_304 := n7_; have NB305_308 := n8_; have NB308_305 := n9_; clear n0_ n1_ n2_ n3_ n4_ n5_ n6_ n7_ n8_ n9_; clear hb hbox hg; have hnb57 := NB308_304.out; have hnc57 := NB304_308.out; have hnb58 := NB308_305.out; have hnc58 := NB305_308.out; have hcz59_0 : w56.cell? ⟨gb308, 0, none⟩ = some (.int .u64 0) := (blk_cell BK308.out 0).trans rfl; have hcz59_1 : w56.cell? ⟨gb308, 1, none⟩ = some (.string (⟨#[]⟩ : ByteArray)) := (blk_cell BK308.out 1).trans rfl; have hfz59_0 := blk_frozen BK308.out 0; have hfz59_1 := blk_frozen BK308.out 1; have hcz60_0 : w56.cell? ⟨gb304, 0, none⟩ = some (.int .u64 a0_0) := (blk_cell BK304.out 0).trans rfl; have hcz60_1 : w56.cell? ⟨gb304, 1, none⟩ = some (.int .u64 a0_1) := (blk_cell BK304.out 1).trans rfl; have hcz60_2 : w56.cell? ⟨gb304, 2, none⟩ = some (.int .u64 a0_2) := (blk_cell BK304.out 2).trans rfl; have hcz60_3 : w56.cell? ⟨gb304, 3, none⟩ = some (.int .u64 a0_3) := (blk_cell BK304.out 3).trans rfl; have hcz60_4 : w56.cell? ⟨gb304, 4, none⟩ = some (.string a0_4) := (blk_cell BK304.out 4).trans rfl; have hcz60_5 : w56.cell? ⟨gb304, 5, none⟩ = some (.slice (some ad307) l0_5.length c0_5) := (blk_cell BK304.out 5).trans rfl; have hfz60_0 := blk_frozen BK304.out 0; have hfz60_1 := blk_frozen BK304.out 1; have hfz60_2 := blk_frozen BK304.out 2; have hfz60_3 := blk_frozen BK304.out 3; have hfz60_4 := blk_frozen BK304.out 4; have hfz60_5 := blk_frozen BK304.out 5)))
            go_ret
            exact ⟨by first | rfl | (simp [errW_none, errW_some] <;> rfl) | (simp [*, errW_none, errW_some] <;> rfl), hx_ HB⟩
           ·rw [if_neg c53] at H
            have c53b0 : decide (a0_0 < ((rd_T75 l0_5 x4_3).f0)) = false := decide_eq_false c53
            clear c53
            by_cases c61 : ((rd_T75 l0_5 x4_3).f0) < a0_3
            ·rw [if_pos c61] at H
             have c61b0 : decide (((rd_T75 l0_5 x4_3).f0) < a0_3) = true := decide_eq_true c61
             clear c61
             obtain rfl := Option.some.inj H
             have hnb62 := NB305_304.out
             have hnc62 := NB304_305.out
             have hcz63_0 : wr.cell? ⟨gb305, 0, none⟩ = some (.int .u64 a0_2) := (blk_cell BK305.out 0).trans rfl
             have hcz63_1 : wr.cell? ⟨gb305, 1, none⟩ = some (.int .u64 a0_3) := (blk_cell BK305.out 1).trans rfl
             have hcz63_2 : wr.cell? ⟨gb305, 2, none⟩ = some (.string a0_4) := (blk_cell BK305.out 2).trans rfl
             have hcz63_3 : wr.cell? ⟨gb305, 3, none⟩ = some (.slice A0_5 l0_5.length c0_5) := (blk_cell BK305.out 3).trans rfl
             have hfz63_0 := blk_frozen BK305.out 0
             have hfz63_1 := blk_frozen BK305.out 1
             have hfz63_2 := blk_frozen BK305.out 2
             have hfz63_3 := blk_frozen BK305.out 3
             have p307 : 0 ≤ (x4_3 : Int) := of_decide_eq_true (by first | (with_reducible assumption) | assumption)
             have q307 : x4_3 < (l0_5.length : Int) := of_decide_eq_true (by first | (with_reducible assumption) | assumption)
             obtain ⟨ad307, e307, hx307_0, hx307_1⟩ := at_T75 HR0_5.out x4_3 p307 q307
             cases e307
             replace hx307_0 := (HB.out.cell (World.block_lt_of_cell? w _ hx307_0)).trans hx307_0
             replace hx307_1 := (HB.out.cell (World.block_lt_of_cell? w _ hx307_1)).trans hx307_1
             replace p307 := eq_true p307
             replace q307 := eq_true q307
             go_wp2_with (first | ((with_reducible refine gate_dst (N := 5) rfl ?_); (try (refine gate_guard (by rfl) ?_; dsimp only)); refine box_event ?hg (N := 5) ?hd (cs := #[.int .u64 0, .string (⟨#[]⟩ : ByteArray)]) (t := 75) ?hr ?_; (case hd => rfl); (case hg => rfl); (case hr => first | (go_simp; done) | (go_simp; rfl)); intro gb308 hg w64 hbox hb; have n0_ := am_ (blk_below (g := gb304) (o := .cells #[.int .u64 a0_0, .int .u64 a0_1, .int .u64 a0_2, .int .u64 a0_3, .string a0_4, .slice (some ad307) l0_5.length c0_5] 30 (0, 0)) (bx_ BK304) hb); have n1_ := am_ (blk_below (g := gb305) (o := .cells #[.int .u64 a0_2, .int .u64 a0_3, .string a0_4, .slice (some ad307) l0_5.length c0_5] 28 (0, 0)) (bx_ BK305) hb); have n2_ := am_ (below_step (by repeat (first | (with_reducible first | exact HB.out | apply below_alloc | apply pw_below_drewN | apply below_drew1 | refine below_set ?_ GE304.out | refine below_set ?_ GE305.out) | exact HB.out | exact Below.refl _ _)) hb); have n3_ := am_ (hbox); have n4_ := am_ ((by rw [hg]; exact (below_size (hx_ HB)) : w.heap.size ≤ gb308)); have n5_ := am_ ((by rw [hg]; exact (below_size (hx_ HB)) : w.heap.size ≤ gb308)); have n6_ := am_ ((by rw [hg]; exact Nat.ne_of_lt (blk_lt (g := gb304) (o := .cells #[.int .u64 a0_0, .int .u64 a0_1, .int .u64 a0_2, .int .u64 a0_3, .string a0_4, .slice (some ad307) l0_5.length c0_5] 30 (0, 0)) (bx_ BK304)) : gb304 ≠ gb308)); have n7_ := am_ ((by rw [hg]; exact Nat.ne_of_gt (blk_lt (g := gb304) (o := .cells #[.int .u64 a0_0, .int .u64 a0_1, .int .u64 a0_2, .int .u64 a0_3, .string a0_4, .slice (some ad307) l0_5.length c0_5] 30 (0, 0)) (bx_ BK304)) : gb308 ≠ gb304)); have n8_ := am_ ((by rw [hg]; exact Nat.ne_of_lt (blk_lt (g := gb305) (o := .cells #[.int .u64 a0_2, .int .u64 a0_3, .string a0_4, .slice (some ad307) l0_5.length c0_5] 28 (0, 0)) (bx_ BK305)) : gb305 ≠ gb308)); have n9_ := am_ ((by rw [hg]; exact Nat.ne_of_gt (blk_lt (g := gb305) (o := .cells #[.int .u64 a0_2, .int .u64 a0_3, .string a0_4, .slice (some ad307) l0_5.length c0_5] 28 (0, 0)) (bx_ BK305)) : gb308 ≠ gb305)); clear BK304; clear BK305; clear HB; have BK304 := n0_; have BK305 := n1_; have HB := n2_; have BK308 := n3_; have GW308 := n4_; have GE308 := n5_; have NB304_308 := n6_; have NB308_304 := n7_; have NB305_308 := n8_; have NB308_305 := n9_; clear n0_ n1_ n2_ n3_ n4_ n5_ n6_ n7_ n8_ n9_; clear hb hbox hg; have hnb65 := NB308_304.out; have hnc65 := NB304_308.out; have hnb66 := NB308_305.out; have hnc66 := NB305_308.out; have hcz67_0 : w64.cell? ⟨gb308, 0, none⟩ = some (.int .u64 0) := (blk_cell BK308.out 0).trans rfl; have hcz67_1 : w64.cell? ⟨gb308, 1, none⟩ = some (.string (⟨#[]⟩ : ByteArray)) := (blk_cell BK308.out 1).trans rfl; have hfz67_0 := blk_frozen BK308.out 0; have hfz67_1 := blk_frozen BK308.out 1; have hcz68_0 : w64.cell? ⟨gb304, 0, none⟩ = some (.int .u64 a0_0) := (blk_cell BK304.out 0).trans rfl; have hcz68_1 : w64.cell? ⟨gb304, 1, none⟩ = some (.int .u64 a0_1) := (blk_cell BK304.out 1).trans rfl; have hcz68_2 : w64.cell? ⟨gb304, 2, none⟩ = some (.int .u64 a0_2) := (blk_cell BK304.out 2).trans rfl; have hcz68_3 : w64.cell? ⟨gb304, 3, none⟩ = some (.int .u64 a0_3) := (blk_cell BK304.out 3).trans rfl; have hcz68_4 : w64.cell? ⟨gb304, 4, none⟩ = some (.string a0_4) := (blk_cell BK304.out 4).trans rfl; have hcz68_5 : w64.cell? ⟨gb304, 5, none⟩ = some (.slice (some ad307) l0_5.length c0_5) := (blk_cell BK304.out 5).trans rfl; have hfz68_0 := blk_frozen BK304.out 0; have hfz68_1 := blk_frozen BK304.out 1; have hfz68_2 := blk_frozen BK304.out 2; have hfz68_3 := blk_frozen BK304.out 3; have hfz68_4 := blk_frozen BK304.out 4; have hfz68_5 := blk_frozen BK304.out 5; have hcz69_0 : w64.cell? ⟨gb305, 0, none⟩ = some (.int .u64 a0_2) := (blk_cell BK305.out 0).trans rfl; have hcz69_1 : w64.cell? ⟨gb305, 1, none⟩ = some (.int .u64 a0_3) := (blk_cell BK305.out 1).trans rfl; have hcz69_2 : w64.cell? ⟨gb305, 2, none⟩ = some (.string a0_4) := (blk_cell BK305.out 2).trans rfl; have hcz69_3 : w64.cell? ⟨gb305, 3, none⟩ = some (.slice (some ad307) l0_5.length c0_5) := (blk_cell BK305.out 3).trans rfl; have hfz69_0 := blk_frozen BK305.out 0; have hfz69_1 := blk_frozen BK305.out 1; have hfz69_2 := blk_frozen BK305.out 2; have hfz69_3 := blk_frozen BK305.out 3))
             repeat (go_quiet (first | ((with_reducible refine gate_dst (N := 5) rfl ?_); (try (refine gate_guard (by rfl) ?_; dsimp only)); refine box_event ?hg (N := 5) ?hd (cs := #[.int .u64 0, .string (⟨#[]⟩ : ByteArray)]) (t := 75) ?hr ?_; (case hd => rfl); (case hg => rfl); (case hr => first | (go_simp; done) | (go_simp; rfl)); intro gb308 hg w64 hbox hb; have n0_ := am_ (blk_below (g := gb304) (o := .cells #[.int .u64 a0_0, .int .u64 a0_1, .int .u64 a0_2, .int .u64 a0_3, .string a0_4, .slice (some ad307) l0_5.length c0_5] 30 (0, 0)) (bx_ BK304) hb); have n1_ := am_ (blk_below (g := gb305) (o := .cells #[.int .u64 a0_2, .int .u64 a0_3, .string a0_4, .slice (some ad307) l0_5.length c0_5] 28 (0, 0)) (bx_ BK305) hb); have n2_ := am_ (below_step (by repeat (first | (with_reducible first | exact HB.out | apply below_alloc | apply pw_below_drewN | apply below_drew1 | refine below_set ?_ GE304.out | refine below_set ?_ GE305.out) | exact HB.out | exact Below.refl _ _)) hb); have n3_ := am_ (hbox); have n4_ := am_ ((by rw [hg]; exact (below_size (hx_ HB)) : w.heap.size ≤ gb308)); have n5_ := am_ ((by rw [hg]; exact (below_size (hx_ HB)) : w.heap.size ≤ gb308)); have n6_ := am_ ((by rw [hg]; exact Nat.ne_of_lt (blk_lt (g := gb304) (o := .cells #[.int .u64 a0_0, .int .u64 a0_1, .int .u64 a0_2, .int .u64 a0_3, .string a0_4, .slice (some ad307) l0_5.length c0_5] 30 (0, 0)) (bx_ BK304)) : gb304 ≠ gb308)); have n7_ := am_ ((by rw [hg]; exact Nat.ne_of_gt (blk_lt (g := gb304) (o := .cells #[.int .u64 a0_0, .int .u64 a0_1, .int .u64 a0_2, .int .u64 a0_3, .string a0_4, .slice (some ad307) l0_5.length c0_5] 30 (0, 0)) (bx_ BK304)) : gb308 ≠ gb304)); have n8_ := am_ ((by rw [hg]; exact Nat.ne_of_lt (blk_lt (g := gb305) (o := .cells #[.int .u64 a0_2, .int .u64 a0_3, .string a0_4, .slice (some ad307) l0_5.length c0_5] 28 (0, 0)) (bx_ BK305)) : gb305 ≠ gb308)); have n9_ := am_ ((by rw [hg]; exact Nat.ne_of_gt (blk_lt (g := gb305) (o := .cells #[.int .u64 a0_2, .int .u64 a0_3, .string a0_4, .slice (some ad307) l0_5.length c0_5] 28 (0, 0)) (bx_ BK305)) : gb308 ≠ gb305)); clear BK304; clear BK305; clear HB; have BK304 := n0_; have BK305 := n1_; have HB := n2_; have BK308 := n3_; have GW308 := n4_; have GE308 := n5_; have NB304_308 := n6_; have NB308_304 := n7_; have NB305_308 := n8_; have NB308_305 := n9_; clear n0_ n1_ n2_ n3_ n4_ n5_ n6_ n7_ n8_ n9_; clear hb hbox hg; have hnb65 := NB308_304.out; have hnc65 := NB304_308.out; have hnb66 := NB308_305.out; have hnc66 := NB305_308.out; have hcz67_0 : w64.cell? ⟨gb308, 0, none⟩ = some (.int .u64 0) := (blk_cell BK308.out 0).trans rfl; have hcz67_1 : w64.cell? ⟨gb308, 1, none⟩ = some (.string (⟨#[]⟩ : ByteArray)) := (blk_cell BK308.out 1).trans rfl; have hfz67_0 := blk_frozen BK308.out 0; have hfz67_1 := blk_frozen BK308.out 1; have hcz68_0 : w64.cell? ⟨gb304, 0, none⟩ = some (.int .u64 a0_0) := (blk_cell BK304.out 0).trans rfl; have hcz68_1 : w64.cell? ⟨gb304, 1, none⟩ = some (.int .u64 a0_1) := (blk_cell BK304.out 1).trans rfl; have hcz68_2 : w64.cell? ⟨gb304, 2, none⟩ = some (.int .u64 a0_2) := (blk_cell BK304.out 2).trans rfl; have hcz68_3 : w64.cell? ⟨gb304, 3, none⟩ = some (.int .u64 a0_3) := (blk_cell BK304.out 3).trans rfl; have hcz68_4 : w64.cell? ⟨gb304, 4, none⟩ = some (.string a0_4) := (blk_cell BK304.out 4).trans rfl; have hcz68_5 : w64.cell? ⟨gb304, 5, none⟩ = some (.slice (some ad307) l0_5.length c0_5) := (blk_cell BK304.out 5).trans rfl; have hfz68_0 := blk_frozen BK304.out 0; have hfz68_1 := blk_frozen BK304.out 1; have hfz68_2 := blk_frozen BK304.out 2; have hfz68_3 := blk_frozen BK304.out 3; have hfz68_4 := blk_frozen BK304.out 4; have hfz68_5 := blk_frozen BK304.out 5; have hcz69_0 : w64.cell? ⟨gb305, 0, none⟩ = some (.int .u64 a0_2) := (blk_cell BK305.out 0).trans rfl; have hcz69_1 : w64.cell? ⟨gb305, 1, none⟩ = some (.int .u64 a0_3) := (blk_cell BK305.out 1).trans rfl; have hcz69_2 : w64.cell? ⟨gb305, 2, none⟩ = some (.string a0_4) := (blk_cell BK305.out 2).trans rfl; have hcz69_3 : w64.cell? ⟨gb305, 3, none⟩ = some (.slice (some ad307) l0_5.length c0_5) := (blk_cell BK305.out 3).trans rfl; have hfz69_0 := blk_frozen BK305.out 0; have hfz69_1 := blk_frozen BK305.out 1; have hfz69_2 := blk_frozen BK305.out 2; have hfz69_3 := blk_frozen BK305.out 3)); try go_wp2_with (first | ((with_reducible refine gate_dst (N := 5) rfl ?_); (try (refine gate_guard (by rfl) ?_; dsimp only)); refine box_event ?hg (N := 5) ?hd (cs := #[.int .u64 0, .string (⟨#[]⟩ : ByteArray)]) (t := 75) ?hr ?_; (case hd => rfl); (case hg => rfl); (case hr => first | (go_simp; done) | (go_simp; rfl)); intro gb308 hg w64 hbox hb; have n0_ := am_ (blk_below (g := gb304) (o := .cells #[.int .u64 a0_0, .int .u64 a0_1, .int .u64 a0_2, .int .u64 a0_3, .string a0_4, .slice (some ad307) l0_5.length c0_5] 30 (0, 0)) (bx_ BK304) hb); have n1_ := am_ (blk_below (g := gb305) (o := .cells #[.int .u64 a0_2, .int .u64 a0_3, .string a0_4, .slice (some ad307) l0_5.length c0_5] 28 (0, 0)) (bx_ BK305) hb); have n2_ := am_ (below_step (by repeat (first | (with_reducible first | exact HB.out | apply below_alloc | apply pw_below_drewN | apply below_drew1 | refine below_set ?_ GE304.out | refine below_set ?_ GE305.out) | exact HB.out | exact Below.refl _ _)) hb); have n3_ := am_ (hbox); have n4_ := am_ ((by rw [hg]; exact (below_size (hx_ HB)) : w.heap.size ≤ gb308)); have n5_ := am_ ((by rw [hg]; exact (below_size (hx_ HB)) : w.heap.size ≤ gb308)); have n6_ := am_ ((by rw [hg]; exact Nat.ne_of_lt (blk_lt (g := gb304) (o := .cells #[.int .u64 a0_0, .int .u64 a0_1, .int .u64 a0_2, .int .u64 a0_3, .string a0_4, .slice (some ad307) l0_5.length c0_5] 30 (0, 0)) (bx_ BK304)) : gb304 ≠ gb308)); have n7_ := am_ ((by rw [hg]; exact Nat.ne_of_gt (blk_lt (g := gb304) (o := .cells #[.int .u64 a0_0, .int .u64 a0_1, .int .u64 a0_2, .int .u64 a0_3, .string a0_4, .slice (some ad307) l0_5.length c0_5] 30 (0, 0)) (bx_ BK304)) : gb308 ≠ gb304)); have n8_ := am_ ((by rw [hg]; exact Nat.ne_of_lt (blk_lt (g := gb305) (o := .cells #[.int .u64 a0_2, .int .u64 a0_3, .string a0_4, .slice (some ad307) l0_5.length c0_5] 28 (0, 0)) (bx_ BK305)) : gb305 ≠ gb308)); have n9_ := am_ ((by rw [hg]; exact Nat.ne_of_gt (blk_lt (g := gb305) (o := .cells #[.int .u64 a0_2, .int .u64 a0_3, .string a0_4, .slice (some ad307) l0_5.length c0_5] 28 (0, 0)) (bx_ BK305)) : gb308 ≠ gb305)); clear BK304; clear BK305; clear HB; have BK304 := n0_; have BK305 := n1_; have HB := n2_; have BK308 := n3_; have GW308 := n4_; have GE308 := n5_; have NB304_308 := n6_; have NB308_304 := n7_; have NB305_308 := n8_; have NB308_305 := n9_; clear n0_ n1_ n2_ n3_ n4_ n5_ n6_ n7_ n8_ n9_; clear hb hbox hg; have hnb65 := NB308_304.out; have hnc65 := NB304_308.out; have hnb66 := NB308_305.out; have hnc66 := NB305_308.out; have hcz67_0 : w64.cell? ⟨gb308, 0, none⟩ = some (.int .u64 0) := (blk_cell BK308.out 0).trans rfl; have hcz67_1 : w64.cell? ⟨gb308, 1, none⟩ = some (.string (⟨#[]⟩ : ByteArray)) := (blk_cell BK308.out 1).trans rfl; have hfz67_0 := blk_frozen BK308.out 0; have hfz67_1 := blk_frozen BK308.out 1; have hcz68_0 : w64.cell? ⟨gb304, 0, none⟩ = some (.int .u64 a0_0) := (blk_cell BK304.out 0).trans rfl; have hcz68_1 : w64.cell? ⟨gb304, 1, none⟩ = some (.int .u64 a0_1) := (blk_cell BK304.out 1).trans rfl; have hcz68_2 : w64.cell? ⟨gb304, 2, none⟩ = some (.int .u64 a0_2) := (blk_cell BK304.out 2).trans rfl; have hcz68_3 : w64.cell? ⟨gb304, 3, none⟩ = some (.int .u64 a0_3) := (blk_cell BK304.out 3).trans rfl; have hcz68_4 : w64.cell? ⟨gb304, 4, none⟩ = some (.string a0_4) := (blk_cell BK304.out 4).trans rfl; have hcz68_5 : w64.cell? ⟨gb304, 5, none⟩ = some (.slice (some ad307) l0_5.length c0_5) := (blk_cell BK304.out 5).trans rfl; have hfz68_0 := blk_frozen BK304.out 0; have hfz68_1 := blk_frozen BK304.out 1; have hfz68_2 := blk_frozen BK304.out 2; have hfz68_3 := blk_frozen BK304.out 3; have hfz68_4 := blk_frozen BK304.out 4; have hfz68_5 := blk_frozen BK304.out 5; have hcz69_0 : w64.cell? ⟨gb305, 0, none⟩ = some (.int .u64 a0_2) := (blk_cell BK305.out 0).trans rfl; have hcz69_1 : w64.cell? ⟨gb305, 1, none⟩ = some (.int .u64 a0_3) := (blk_cell BK305.out 1).trans rfl; have hcz69_2 : w64.cell? ⟨gb305, 2, none⟩ = some (.string a0_4) := (blk_cell BK305.out 2).trans rfl; have hcz69_3 : w64.cell? ⟨gb305, 3, none⟩ = some (.slice (some ad307) l0_5.length c0_5) := (blk_cell BK305.out 3).trans rfl; have hfz69_0 := blk_frozen BK305.out 0; have hfz69_1 := blk_frozen BK305.out 1; have hfz69_2 := blk_frozen BK305.out 2; have hfz69_3 := blk_frozen BK305.out 3)))
             go_ret
             exact ⟨by first | rfl | (simp [errW_none, errW_some] <;> rfl) | (simp [*, errW_none, errW_some] <;> rfl), hx_ HB⟩
            ·rw [if_neg c61] at H
             have c61b0 : decide (((rd_T75 l0_5 x4_3).f0) < a0_3) = false := decide_eq_false c61
             clear c61
             by_cases c70 : x4_3 > 0
             ·rw [if_pos c70] at H
              have c70b0 : decide (0 < x4_3) = true := decide_eq_true c70
              clear c70
              obtain ⟨ji71, hji71⟩ : ∃ j_ : Int, (wrap64 (x4_3 - 1)) = j_ := ⟨_, rfl⟩
              replace H : (if 0 ≤ (ji71) then (if (ji71) < (l0_5.length : Int) then (if ((rd_T75 l0_5 x4_3).f0) < ((rd_T75 l0_5 (ji71)).f0) then (some false) else (if (((rd_T75 l0_5 x4_3).f1).size : Int) > 4096 then (some false) else (ferruleref04_May.l0 k3 (wrap64 (x4_3 + 1)) a0_0 a0_1 a0_2 a0_3 a0_4 l0_5 a0_2 a0_3 a0_4 l0_5))) else (none)) else (none)) = some r := by first | (rw [hji71] at H; exact H) | (simp only [hji71] at H ⊢; exact H)
              have hji71w : (IntKind.i64.wrap (x4_3 - 1)) = ji71 := (i64_w _).trans hji71
              by_cases c72 : 0 ≤ (ji71)
              ·rw [if_pos c72] at H
               have c72b0 : decide (0 ≤ (ji71)) = true := decide_eq_true c72
               clear c72
               by_cases c73 : (ji71) < (l0_5.length : Int)
               ·rw [if_pos c73] at H
                have c73b0 : decide ((ji71) < (l0_5.length : Int)) = true := decide_eq_true c73
                clear c73
                by_cases c74 : ((rd_T75 l0_5 x4_3).f0) < ((rd_T75 l0_5 (ji71)).f0)
                ·rw [if_pos c74] at H
                 have c74b0 : decide (((rd_T75 l0_5 x4_3).f0) < ((rd_T75 l0_5 (ji71)).f0)) = true := decide_eq_true c74
                 clear c74
                 obtain rfl := Option.some.inj H
                 have hnb75 := NB305_304.out
                 have hnc75 := NB304_305.out
                 have hcz76_0 : wr.cell? ⟨gb305, 0, none⟩ = some (.int .u64 a0_2) := (blk_cell BK305.out 0).trans rfl
                 have hcz76_1 : wr.cell? ⟨gb305, 1, none⟩ = some (.int .u64 a0_3) := (blk_cell BK305.out 1).trans rfl
                 have hcz76_2 : wr.cell? ⟨gb305, 2, none⟩ = some (.string a0_4) := (blk_cell BK305.out 2).trans rfl
                 have hcz76_3 : wr.cell? ⟨gb305, 3, none⟩ = some (.slice A0_5 l0_5.length c0_5) := (blk_cell BK305.out 3).trans rfl
                 have hfz76_0 := blk_frozen BK305.out 0
                 have hfz76_1 := blk_frozen BK305.out 1
                 have hfz76_2 := blk_frozen BK305.out 2
                 have hfz76_3 := blk_frozen BK305.out 3
                 have p307 : 0 ≤ (x4_3 : Int) := of_decide_eq_true (by first | (with_reducible assumption) | assumption)
                 have q307 : x4_3 < (l0_5.length : Int) := of_decide_eq_true (by first | (with_reducible assumption) | assumption)
                 obtain ⟨ad307, e307, hx307_0, hx307_1⟩ := at_T75 HR0_5.out x4_3 p307 q307
                 cases e307
                 replace hx307_0 := (HB.out.cell (World.block_lt_of_cell? w _ hx307_0)).trans hx307_0
                 replace hx307_1 := (HB.out.cell (World.block_lt_of_cell? w _ hx307_1)).trans hx307_1
                 replace p307 := eq_true p307
                 replace q307 := eq_true q307
                 go_wp2_with (first | ((with_reducible refine gate_dst (N := 5) rfl ?_); (try (refine gate_guard (by rfl) ?_; dsimp only)); refine box_event ?hg (N := 5) ?hd (cs := #[.int .u64 0, .string (⟨#[]⟩ : ByteArray)]) (t := 75) ?hr ?_; (case hd => rfl); (case hg => rfl); (case hr => first | (go_simp; done) | (go_simp; rfl)); intro gb308 hg w77 hbox hb; have n0_ := am_ (blk_below (g := gb304) (o := .cells #[.int .u64 a0_0, .int .u64 a0_1, .int .u64 a0_2, .int .u64 a0_3, .string a0_4, .slice (some ad307) l0_5.length c0_5] 30 (0, 0)) (bx_ BK304) hb); have n1_ := am_ (blk_below (g := gb305) (o := .cells #[.int .u64 a0_2, .int .u64 a0_3, .string a0_4, .slice (some ad307) l0_5.length c0_5] 28 (0, 0)) (bx_ BK305) hb); have n2_ := am_ (below_step (by repeat (first | (with_reducible first | exact HB.out | apply below_alloc | apply pw_below_drewN | apply below_drew1 | refine below_set ?_ GE304.out | refine below_set ?_ GE305.out) | exact HB.out | exact Below.refl _ _)) hb); have n3_ := am_ (hbox); have n4_ := am_ ((by rw [hg]; exact (below_size (hx_ HB)) : w.heap.size ≤ gb308)); have n5_ := am_ ((by rw [hg]; exact (below_size (hx_ HB)) : w.heap.size ≤ gb308)); have n6_ := am_ ((by rw [hg]; exact Nat.ne_of_lt (blk_lt (g := gb304) (o := .cells #[.int .u64 a0_0, .int .u64 a0_1, .int .u64 a0_2, .int .u64 a0_3, .string a0_4, .slice (some ad307) l0_5.length c0_5] 30 (0, 0)) (bx_ BK304)) : gb304 ≠ gb308)); have n7_ := am_ ((by rw [hg]; exact Nat.ne_of_gt (blk_lt (g := gb304) (o := .cells #[.int .u64 a0_0, .int .u64 a0_1, .int .u64 a0_2, .int .u64 a0_3, .string a0_4, .slice (some ad307) l0_5.length c0_5] 30 (0, 0)) (bx_ BK304)) : gb308 ≠ gb304)); have n8_ := am_ ((by rw [hg]; exact Nat.ne_of_lt (blk_lt (g := gb305) (o := .cells #[.int .u64 a0_2, .int .u64 a0_3, .string a0_4, .slice (some ad307) l0_5.length c0_5] 28 (0, 0)) (bx_ BK305)) : gb305 ≠ gb308)); have n9_ := am_ ((by rw [hg]; exact Nat.ne_of_gt (blk_lt (g := gb305) (o := .cells #[.int .u64 a0_2, .int .u64 a0_3, .string a0_4, .slice (some ad307) l0_5.length c0_5] 28 (0, 0)) (bx_ BK305)) : gb308 ≠ gb305)); clear BK304; clear BK305; clear HB; have BK304 := n0_; have BK305 := n1_; have HB := n2_; have BK308 := n3_; have GW308 := n4_; have GE308 := n5_; have NB304_308 := n6_; have NB308_304 := n7_; have NB305_308 := n8_; have NB308_305 := n9_; clear n0_ n1_ n2_ n3_ n4_ n5_ n6_ n7_ n8_ n9_; clear hb hbox hg; have hnb78 := NB308_304.out; have hnc78 := NB304_308.out; have hnb79 := NB308_305.out; have hnc79 := NB305_308.out; have hcz80_0 : w77.cell? ⟨gb308, 0, none⟩ = some (.int .u64 0) := (blk_cell BK308.out 0).trans rfl; have hcz80_1 : w77.cell? ⟨gb308, 1, none⟩ = some (.string (⟨#[]⟩ : ByteArray)) := (blk_cell BK308.out 1).trans rfl; have hfz80_0 := blk_frozen BK308.out 0; have hfz80_1 := blk_frozen BK308.out 1; have hcz81_0 : w77.cell? ⟨gb304, 0, none⟩ = some (.int .u64 a0_0) := (blk_cell BK304.out 0).trans rfl; have hcz81_1 : w77.cell? ⟨gb304, 1, none⟩ = some (.int .u64 a0_1) := (blk_cell BK304.out 1).trans rfl; have hcz81_2 : w77.cell? ⟨gb304, 2, none⟩ = some (.int .u64 a0_2) := (blk_cell BK304.out 2).trans rfl; have hcz81_3 : w77.cell? ⟨gb304, 3, none⟩ = some (.int .u64 a0_3) := (blk_cell BK304.out 3).trans rfl; have hcz81_4 : w77.cell? ⟨gb304, 4, none⟩ = some (.string a0_4) := (blk_cell BK304.out 4).trans rfl; have hcz81_5 : w77.cell? ⟨gb304, 5, none⟩ = some (.slice (some ad307) l0_5.length c0_5) := (blk_cell BK304.out 5).trans rfl; have hfz81_0 := blk_frozen BK304.out 0; have hfz81_1 := blk_frozen BK304.out 1; have hfz81_2 := blk_frozen BK304.out 2; have hfz81_3 := blk_frozen BK304.out 3; have hfz81_4 := blk_frozen BK304.out 4; have hfz81_5 := blk_frozen BK304.out 5; have hcz82_0 : w77.cell? ⟨gb305, 0, none⟩ = some (.int .u64 a0_2) := (blk_cell BK305.out 0).trans rfl; have hcz82_1 : w77.cell? ⟨gb305, 1, none⟩ = some (.int .u64 a0_3) := (blk_cell BK305.out 1).trans rfl; have hcz82_2 : w77.cell? ⟨gb305, 2, none⟩ = some (.string a0_4) := (blk_cell BK305.out 2).trans rfl; have hcz82_3 : w77.cell? ⟨gb305, 3, none⟩ = some (.slice (some ad307) l0_5.length c0_5) := (blk_cell BK305.out 3).trans rfl; have hfz82_0 := blk_frozen BK305.out 0; have hfz82_1 := blk_frozen BK305.out 1; have hfz82_2 := blk_frozen BK305.out 2; have hfz82_3 := blk_frozen BK305.out 3; have p309 : 0 ≤ ((ji71) : Int) := of_decide_eq_true (by first | (with_reducible assumption) | assumption); have q309 : (ji71) < (l0_5.length : Int) := of_decide_eq_true (by first | (with_reducible assumption) | assumption); obtain ⟨ad309, e309, hx309_0, hx309_1⟩ := at_T75 HR0_5.out (ji71) p309 q309; obtain rfl : ad307 = ad309 := (by injection e309); have hn309_0 : ad307.block ≠ gb308 := Nat.ne_of_lt (Nat.lt_of_lt_of_le (by have := World.block_lt_of_cell? _ _ hx309_0; first | rwa [add_block] at this | exact this) GW308.out); have hn309_1 : ad307.block ≠ gb308 := Nat.ne_of_lt (Nat.lt_of_lt_of_le (by have := World.block_lt_of_cell? _ _ hx309_0; first | rwa [add_block] at this | exact this) GW308.out); replace hx309_0 := (HB.out.cell (World.block_lt_of_cell? w _ hx309_0)).trans hx309_0; replace hx309_1 := (HB.out.cell (World.block_lt_of_cell? w _ hx309_1)).trans hx309_1; replace hx309_0 := (cell_far (p := ⟨gb308, 0, none⟩) (by first | (rw [add_block]; exact hn309_0) | (show (Addr.add _ _).block ≠ _; rw [add_block]; exact hn309_0) | exact hn309_0) (.int .u64 ((rd_T75 l0_5 x4_3).f0))).trans hx309_0; replace hx309_1 := (cell_far (p := ⟨gb308, 0, none⟩) (by first | (rw [add_block]; exact hn309_0) | (show (Addr.add _ _).block ≠ _; rw [add_block]; exact hn309_0) | exact hn309_0) (.int .u64 ((rd_T75 l0_5 x4_3).f0))).trans hx309_1; replace hx309_0 := (cell_far (p := ⟨gb308, 1, none⟩) (by first | (rw [add_block]; exact hn309_1) | (show (Addr.add _ _).block ≠ _; rw [add_block]; exact hn309_1) | exact hn309_1) (.string ((rd_T75 l0_5 x4_3).f1))).trans hx309_0; replace hx309_1 := (cell_far (p := ⟨gb308, 1, none⟩) (by first | (rw [add_block]; exact hn309_1) | (show (Addr.add _ _).block ≠ _; rw [add_block]; exact hn309_1) | exact hn309_1) (.string ((rd_T75 l0_5 x4_3).f1))).trans hx309_1; (try have hy309_0 := fun (n_ : Nat) => (show ((((w77.drewN n_).setCell ⟨gb308, 0, none⟩ (.int .u64 ((rd_T75 l0_5 x4_3).f0))).setCell ⟨gb308, 1, none⟩ (.string ((rd_T75 l0_5 x4_3).f1)))).cell? _ = some _ from hx309_0)); (try have hy309_1 := fun (n_ : Nat) => (show ((((w77.drewN n_).setCell ⟨gb308, 0, none⟩ (.int .u64 ((rd_T75 l0_5 x4_3).f0))).setCell ⟨gb308, 1, none⟩ (.string ((rd_T75 l0_5 x4_3).f1)))).cell? _ = some _ from hx309_1)); clear hn309_0; clear hn309_1; replace p309 := eq_true p309; replace q309 := eq_true q309))
                 repeat (go_quiet (first | ((with_reducible refine gate_dst (N := 5) rfl ?_); (try (refine gate_guard (by rfl) ?_; dsimp only)); refine box_event ?hg (N := 5) ?hd (cs := #[.int .u64 0, .string (⟨#[]⟩ : ByteArray)]) (t := 75) ?hr ?_; (case hd => rfl); (case hg => rfl); (case hr => first | (go_simp; done) | (go_simp; rfl)); intro gb308 hg w77 hbox hb; have n0_ := am_ (blk_below (g := gb304) (o := .cells #[.int .u64 a0_0, .int .u64 a0_1, .int .u64 a0_2, .int .u64 a0_3, .string a0_4, .slice (some ad307) l0_5.length c0_5] 30 (0, 0)) (bx_ BK304) hb); have n1_ := am_ (blk_below (g := gb305) (o := .cells #[.int .u64 a0_2, .int .u64 a0_3, .string a0_4, .slice (some ad307) l0_5.length c0_5] 28 (0, 0)) (bx_ BK305) hb); have n2_ := am_ (below_step (by repeat (first | (with_reducible first | exact HB.out | apply below_alloc | apply pw_below_drewN | apply below_drew1 | refine below_set ?_ GE304.out | refine below_set ?_ GE305.out) | exact HB.out | exact Below.refl _ _)) hb); have n3_ := am_ (hbox); have n4_ := am_ ((by rw [hg]; exact (below_size (hx_ HB)) : w.heap.size ≤ gb308)); have n5_ := am_ ((by rw [hg]; exact (below_size (hx_ HB)) : w.heap.size ≤ gb308)); have n6_ := am_ ((by rw [hg]; exact Nat.ne_of_lt (blk_lt (g := gb304) (o := .cells #[.int .u64 a0_0, .int .u64 a0_1, .int .u64 a0_2, .int .u64 a0_3, .string a0_4, .slice (some ad307) l0_5.length c0_5] 30 (0, 0)) (bx_ BK304)) : gb304 ≠ gb308)); have n7_ := am_ ((by rw [hg]; exact Nat.ne_of_gt (blk_lt (g := gb304) (o := .cells #[.int .u64 a0_0, .int .u64 a0_1, .int .u64 a0_2, .int .u64 a0_3, .string a0_4, .slice (some ad307) l0_5.length c0_5] 30 (0, 0)) (bx_ BK304)) : gb308 ≠ gb304)); have n8_ := am_ ((by rw [hg]; exact Nat.ne_of_lt (blk_lt (g := gb305) (o := .cells #[.int .u64 a0_2, .int .u64 a0_3, .string a0_4, .slice (some ad307) l0_5.length c0_5] 28 (0, 0)) (bx_ BK305)) : gb305 ≠ gb308)); have n9_ := am_ ((by rw [hg]; exact Nat.ne_of_gt (blk_lt (g := gb305) (o := .cells #[.int .u64 a0_2, .int .u64 a0_3, .string a0_4, .slice (some ad307) l0_5.length c0_5] 28 (0, 0)) (bx_ BK305)) : gb308 ≠ gb305)); clear BK304; clear BK305; clear HB; have BK304 := n0_; have BK305 := n1_; have HB := n2_; have BK308 := n3_; have GW308 := n4_; have GE308 := n5_; have NB304_308 := n6_; have NB308_304 := n7_; have NB305_308 := n8_; have NB308_305 := n9_; clear n0_ n1_ n2_ n3_ n4_ n5_ n6_ n7_ n8_ n9_; clear hb hbox hg; have hnb78 := NB308_304.out; have hnc78 := NB304_308.out; have hnb79 := NB308_305.out; have hnc79 := NB305_308.out; have hcz80_0 : w77.cell? ⟨gb308, 0, none⟩ = some (.int .u64 0) := (blk_cell BK308.out 0).trans rfl; have hcz80_1 : w77.cell? ⟨gb308, 1, none⟩ = some (.string (⟨#[]⟩ : ByteArray)) := (blk_cell BK308.out 1).trans rfl; have hfz80_0 := blk_frozen BK308.out 0; have hfz80_1 := blk_frozen BK308.out 1; have hcz81_0 : w77.cell? ⟨gb304, 0, none⟩ = some (.int .u64 a0_0) := (blk_cell BK304.out 0).trans rfl; have hcz81_1 : w77.cell? ⟨gb304, 1, none⟩ = some (.int .u64 a0_1) := (blk_cell BK304.out 1).trans rfl; have hcz81_2 : w77.cell? ⟨gb304, 2, none⟩ = some (.int .u64 a0_2) := (blk_cell BK304.out 2).trans rfl; have hcz81_3 : w77.cell? ⟨gb304, 3, none⟩ = some (.int .u64 a0_3) := (blk_cell BK304.out 3).trans rfl; have hcz81_4 : w77.cell? ⟨gb304, 4, none⟩ = some (.string a0_4) := (blk_cell BK304.out 4).trans rfl; have hcz81_5 : w77.cell? ⟨gb304, 5, none⟩ = some (.slice (some ad307) l0_5.length c0_5) := (blk_cell BK304.out 5).trans rfl; have hfz81_0 := blk_frozen BK304.out 0; have hfz81_1 := blk_frozen BK304.out 1; have hfz81_2 := blk_frozen BK304.out 2; have hfz81_3 := blk_frozen BK304.out 3; have hfz81_4 := blk_frozen BK304.out 4; have hfz81_5 := blk_frozen BK304.out 5; have hcz82_0 : w77.cell? ⟨gb305, 0, none⟩ = some (.int .u64 a0_2) := (blk_cell BK305.out 0).trans rfl; have hcz82_1 : w77.cell? ⟨gb305, 1, none⟩ = some (.int .u64 a0_3) := (blk_cell BK305.out 1).trans rfl; have hcz82_2 : w77.cell? ⟨gb305, 2, none⟩ = some (.string a0_4) := (blk_cell BK305.out 2).trans rfl; have hcz82_3 : w77.cell? ⟨gb305, 3, none⟩ = some (.slice (some ad307) l0_5.length c0_5) := (blk_cell BK305.out 3).trans rfl; have hfz82_0 := blk_frozen BK305.out 0; have hfz82_1 := blk_frozen BK305.out 1; have hfz82_2 := blk_frozen BK305.out 2; have hfz82_3 := blk_frozen BK305.out 3; have p309 : 0 ≤ ((ji71) : Int) := of_decide_eq_true (by first | (with_reducible assumption) | assumption); have q309 : (ji71) < (l0_5.length : Int) := of_decide_eq_true (by first | (with_reducible assumption) | assumption); obtain ⟨ad309, e309, hx309_0, hx309_1⟩ := at_T75 HR0_5.out (ji71) p309 q309; obtain rfl : ad307 = ad309 := (by injection e309); have hn309_0 : ad307.block ≠ gb308 := Nat.ne_of_lt (Nat.lt_of_lt_of_le (by have := World.block_lt_of_cell? _ _ hx309_0; first | rwa [add_block] at this | exact this) GW308.out); have hn309_1 : ad307.block ≠ gb308 := Nat.ne_of_lt (Nat.lt_of_lt_of_le (by have := World.block_lt_of_cell? _ _ hx309_0; first | rwa [add_block] at this | exact this) GW308.out); replace hx309_0 := (HB.out.cell (World.block_lt_of_cell? w _ hx309_0)).trans hx309_0; replace hx309_1 := (HB.out.cell (World.block_lt_of_cell? w _ hx309_1)).trans hx309_1; replace hx309_0 := (cell_far (p := ⟨gb308, 0, none⟩) (by first | (rw [add_block]; exact hn309_0) | (show (Addr.add _ _).block ≠ _; rw [add_block]; exact hn309_0) | exact hn309_0) (.int .u64 ((rd_T75 l0_5 x4_3).f0))).trans hx309_0; replace hx309_1 := (cell_far (p := ⟨gb308, 0, none⟩) (by first | (rw [add_block]; exact hn309_0) | (show (Addr.add _ _).block ≠ _; rw [add_block]; exact hn309_0) | exact hn309_0) (.int .u64 ((rd_T75 l0_5 x4_3).f0))).trans hx309_1; replace hx309_0 := (cell_far (p := ⟨gb308, 1, none⟩) (by first | (rw [add_block]; exact hn309_1) | (show (Addr.add _ _).block ≠ _; rw [add_block]; exact hn309_1) | exact hn309_1) (.string ((rd_T75 l0_5 x4_3).f1))).trans hx309_0; replace hx309_1 := (cell_far (p := ⟨gb308, 1, none⟩) (by first | (rw [add_block]; exact hn309_1) | (show (Addr.add _ _).block ≠ _; rw [add_block]; exact hn309_1) | exact hn309_1) (.string ((rd_T75 l0_5 x4_3).f1))).trans hx309_1; (try have hy309_0 := fun (n_ : Nat) => (show ((((w77.drewN n_).setCell ⟨gb308, 0, none⟩ (.int .u64 ((rd_T75 l0_5 x4_3).f0))).setCell ⟨gb308, 1, none⟩ (.string ((rd_T75 l0_5 x4_3).f1)))).cell? _ = some _ from hx309_0)); (try have hy309_1 := fun (n_ : Nat) => (show ((((w77.drewN n_).setCell ⟨gb308, 0, none⟩ (.int .u64 ((rd_T75 l0_5 x4_3).f0))).setCell ⟨gb308, 1, none⟩ (.string ((rd_T75 l0_5 x4_3).f1)))).cell? _ = some _ from hx309_1)); clear hn309_0; clear hn309_1; replace p309 := eq_true p309; replace q309 := eq_true q309)); try go_wp2_with (first | ((with_reducible refine gate_dst (N := 5) rfl ?_); (try (refine gate_guard (by rfl) ?_; dsimp only)); refine box_event ?hg (N := 5) ?hd (cs := #[.int .u64 0, .string (⟨#[]⟩ : ByteArray)]) (t := 75) ?hr ?_; (case hd => rfl); (case hg => rfl); (case hr => first | (go_simp; done) | (go_simp; rfl)); intro gb308 hg w77 hbox hb; have n0_ := am_ (blk_below (g := gb304) (o := .cells #[.int .u64 a0_0, .int .u64 a0_1, .int .u64 a0_2, .int .u64 a0_3, .string a0_4, .slice (some ad307) l0_5.length c0_5] 30 (0, 0)) (bx_ BK304) hb); have n1_ := am_ (blk_below (g := gb305) (o := .cells #[.int .u64 a0_2, .int .u64 a0_3, .string a0_4, .slice (some ad307) l0_5.length c0_5] 28 (0, 0)) (bx_ BK305) hb); have n2_ := am_ (below_step (by repeat (first | (with_reducible first | exact HB.out | apply below_alloc | apply pw_below_drewN | apply below_drew1 | refine below_set ?_ GE304.out | refine below_set ?_ GE305.out) | exact HB.out | exact Below.refl _ _)) hb); have n3_ := am_ (hbox); have n4_ := am_ ((by rw [hg]; exact (below_size (hx_ HB)) : w.heap.size ≤ gb308)); have n5_ := am_ ((by rw [hg]; exact (below_size (hx_ HB)) : w.heap.size ≤ gb308)); have n6_ := am_ ((by rw [hg]; exact Nat.ne_of_lt (blk_lt (g := gb304) (o := .cells #[.int .u64 a0_0, .int .u64 a0_1, .int .u64 a0_2, .int .u64 a0_3, .string a0_4, .slice (some ad307) l0_5.length c0_5] 30 (0, 0)) (bx_ BK304)) : gb304 ≠ gb308)); have n7_ := am_ ((by rw [hg]; exact Nat.ne_of_gt (blk_lt (g := gb304) (o := .cells #[.int .u64 a0_0, .int .u64 a0_1, .int .u64 a0_2, .int .u64 a0_3, .string a0_4, .slice (some ad307) l0_5.length c0_5] 30 (0, 0)) (bx_ BK304)) : gb308 ≠ gb304)); have n8_ := am_ ((by rw [hg]; exact Nat.ne_of_lt (blk_lt (g := gb305) (o := .cells #[.int .u64 a0_2, .int .u64 a0_3, .string a0_4, .slice (some ad307) l0_5.length c0_5] 28 (0, 0)) (bx_ BK305)) : gb305 ≠ gb308)); have n9_ := am_ ((by rw [hg]; exact Nat.ne_of_gt (blk_lt (g := gb305) (o := .cells #[.int .u64 a0_2, .int .u64 a0_3, .string a0_4, .slice (some ad307) l0_5.length c0_5] 28 (0, 0)) (bx_ BK305)) : gb308 ≠ gb305)); clear BK304; clear BK305; clear HB; have BK304 := n0_; have BK305 := n1_; have HB := n2_; have BK308 := n3_; have GW308 := n4_; have GE308 := n5_; have NB304_308 := n6_; have NB308_304 := n7_; have NB305_308 := n8_; have NB308_305 := n9_; clear n0_ n1_ n2_ n3_ n4_ n5_ n6_ n7_ n8_ n9_; clear hb hbox hg; have hnb78 := NB308_304.out; have hnc78 := NB304_308.out; have hnb79 := NB308_305.out; have hnc79 := NB305_308.out; have hcz80_0 : w77.cell? ⟨gb308, 0, none⟩ = some (.int .u64 0) := (blk_cell BK308.out 0).trans rfl; have hcz80_1 : w77.cell? ⟨gb308, 1, none⟩ = some (.string (⟨#[]⟩ : ByteArray)) := (blk_cell BK308.out 1).trans rfl; have hfz80_0 := blk_frozen BK308.out 0; have hfz80_1 := blk_frozen BK308.out 1; have hcz81_0 : w77.cell? ⟨gb304, 0, none⟩ = some (.int .u64 a0_0) := (blk_cell BK304.out 0).trans rfl; have hcz81_1 : w77.cell? ⟨gb304, 1, none⟩ = some (.int .u64 a0_1) := (blk_cell BK304.out 1).trans rfl; have hcz81_2 : w77.cell? ⟨gb304, 2, none⟩ = some (.int .u64 a0_2) := (blk_cell BK304.out 2).trans rfl; have hcz81_3 : w77.cell? ⟨gb304, 3, none⟩ = some (.int .u64 a0_3) := (blk_cell BK304.out 3).trans rfl; have hcz81_4 : w77.cell? ⟨gb304, 4, none⟩ = some (.string a0_4) := (blk_cell BK304.out 4).trans rfl; have hcz81_5 : w77.cell? ⟨gb304, 5, none⟩ = some (.slice (some ad307) l0_5.length c0_5) := (blk_cell BK304.out 5).trans rfl; have hfz81_0 := blk_frozen BK304.out 0; have hfz81_1 := blk_frozen BK304.out 1; have hfz81_2 := blk_frozen BK304.out 2; have hfz81_3 := blk_frozen BK304.out 3; have hfz81_4 := blk_frozen BK304.out 4; have hfz81_5 := blk_frozen BK304.out 5; have hcz82_0 : w77.cell? ⟨gb305, 0, none⟩ = some (.int .u64 a0_2) := (blk_cell BK305.out 0).trans rfl; have hcz82_1 : w77.cell? ⟨gb305, 1, none⟩ = some (.int .u64 a0_3) := (blk_cell BK305.out 1).trans rfl; have hcz82_2 : w77.cell? ⟨gb305, 2, none⟩ = some (.string a0_4) := (blk_cell BK305.out 2).trans rfl; have hcz82_3 : w77.cell? ⟨gb305, 3, none⟩ = some (.slice (some ad307) l0_5.length c0_5) := (blk_cell BK305.out 3).trans rfl; have hfz82_0 := blk_frozen BK305.out 0; have hfz82_1 := blk_frozen BK305.out 1; have hfz82_2 := blk_frozen BK305.out 2; have hfz82_3 := blk_frozen BK305.out 3; have p309 : 0 ≤ ((ji71) : Int) := of_decide_eq_true (by first | (with_reducible assumption) | assumption); have q309 : (ji71) < (l0_5.length : Int) := of_decide_eq_true (by first | (with_reducible assumption) | assumption); obtain ⟨ad309, e309, hx309_0, hx309_1⟩ := at_T75 HR0_5.out (ji71) p309 q309; obtain rfl : ad307 = ad309 := (by injection e309); have hn309_0 : ad307.block ≠ gb308 := Nat.ne_of_lt (Nat.lt_of_lt_of_le (by have := World.block_lt_of_cell? _ _ hx309_0; first | rwa [add_block] at this | exact this) GW308.out); have hn309_1 : ad307.block ≠ gb308 := Nat.ne_of_lt (Nat.lt_of_lt_of_le (by have := World.block_lt_of_cell? _ _ hx309_0; first | rwa [add_block] at this | exact this) GW308.out); replace hx309_0 := (HB.out.cell (World.block_lt_of_cell? w _ hx309_0)).trans hx309_0; replace hx309_1 := (HB.out.cell (World.block_lt_of_cell? w _ hx309_1)).trans hx309_1; replace hx309_0 := (cell_far (p := ⟨gb308, 0, none⟩) (by first | (rw [add_block]; exact hn309_0) | (show (Addr.add _ _).block ≠ _; rw [add_block]; exact hn309_0) | exact hn309_0) (.int .u64 ((rd_T75 l0_5 x4_3).f0))).trans hx309_0; replace hx309_1 := (cell_far (p := ⟨gb308, 0, none⟩) (by first | (rw [add_block]; exact hn309_0) | (show (Addr.add _ _).block ≠ _; rw [add_block]; exact hn309_0) | exact hn309_0) (.int .u64 ((rd_T75 l0_5 x4_3).f0))).trans hx309_1; replace hx309_0 := (cell_far (p := ⟨gb308, 1, none⟩) (by first | (rw [add_block]; exact hn309_1) | (show (Addr.add _ _).block ≠ _; rw [add_block]; exact hn309_1) | exact hn309_1) (.string ((rd_T75 l0_5 x4_3).f1))).trans hx309_0; replace hx309_1 := (cell_far (p := ⟨gb308, 1, none⟩) (by first | (rw [add_block]; exact hn309_1) | (show (Addr.add _ _).block ≠ _; rw [add_block]; exact hn309_1) | exact hn309_1) (.string ((rd_T75 l0_5 x4_3).f1))).trans hx309_1; (try have hy309_0 := fun (n_ : Nat) => (show ((((w77.drewN n_).setCell ⟨gb308, 0, none⟩ (.int .u64 ((rd_T75 l0_5 x4_3).f0))).setCell ⟨gb308, 1, none⟩ (.string ((rd_T75 l0_5 x4_3).f1)))).cell? _ = some _ from hx309_0)); (try have hy309_1 := fun (n_ : Nat) => (show ((((w77.drewN n_).setCell ⟨gb308, 0, none⟩ (.int .u64 ((rd_T75 l0_5 x4_3).f0))).setCell ⟨gb308, 1, none⟩ (.string ((rd_T75 l0_5 x4_3).f1)))).cell? _ = some _ from hx309_1)); clear hn309_0; clear hn309_1; replace p309 := eq_true p309; replace q309 := eq_true q309)))
                 go_ret
                 exact ⟨by first | rfl | (simp [errW_none, errW_some] <;> rfl) | (simp only [← hji71]; first | rfl | (simp [errW_none, errW_some] <;> rfl)) | (simp [*, errW_none, errW_some] <;> rfl), hx_ HB⟩
                ·rw [if_neg c74] at H
                 have c74b0 : decide (((rd_T75 l0_5 x4_3).f0) < ((rd_T75 l0_5 (ji71)).f0)) = false := decide_eq_false c74
                 clear c74
                 by_cases c83 : (((rd_T75 l0_5 x4_3).f1).size : Int) > 4096
                 ·rw [if_pos c83] at H
                  have c83b0 : decide (4096 < (((rd_T75 l0_5 x4_3).f1).size : Int)) = true := decide_eq_true c83
                  have c83b1 : decide (4096 < ((rd_T75 l0_5 x4_3).f1).size) = true := decide_eq_true (by omega)
                  clear c83
                  obtain rfl := Option.some.inj H
                  have hnb84 := NB305_304.out
                  have hnc84 := NB304_305.out
                  have hcz85_0 : wr.cell? ⟨gb305, 0, none⟩ = some (.int .u64 a0_2) := (blk_cell BK305.out 0).trans rfl
                  have hcz85_1 : wr.cell? ⟨gb305, 1, none⟩ = some (.int .u64 a0_3) := (blk_cell BK305.out 1).trans rfl
                  have hcz85_2 : wr.cell? ⟨gb305, 2, none⟩ = some (.string a0_4) := (blk_cell BK305.out 2).trans rfl
                  have hcz85_3 : wr.cell? ⟨gb305, 3, none⟩ = some (.slice A0_5 l0_5.length c0_5) := (blk_cell BK305.out 3).trans rfl
                  have hfz85_0 := blk_frozen BK305.out 0
                  have hfz85_1 := blk_frozen BK305.out 1
                  have hfz85_2 := blk_frozen BK305.out 2
                  have hfz85_3 := blk_frozen BK305.out 3
                  have p307 : 0 ≤ (x4_3 : Int) := of_decide_eq_true (by first | (with_reducible assumption) | assumption)
                  have q307 : x4_3 < (l0_5.length : Int) := of_decide_eq_true (by first | (with_reducible assumption) | assumption)
                  obtain ⟨ad307, e307, hx307_0, hx307_1⟩ := at_T75 HR0_5.out x4_3 p307 q307
                  cases e307
                  replace hx307_0 := (HB.out.cell (World.block_lt_of_cell? w _ hx307_0)).trans hx307_0
                  replace hx307_1 := (HB.out.cell (World.block_lt_of_cell? w _ hx307_1)).trans hx307_1
                  replace p307 := eq_true p307
                  replace q307 := eq_true q307
                  go_wp2_with (first | ((with_reducible refine gate_dst (N := 5) rfl ?_); (try (refine gate_guard (by rfl) ?_; dsimp only)); refine box_event ?hg (N := 5) ?hd (cs := #[.int .u64 0, .string (⟨#[]⟩ : ByteArray)]) (t := 75) ?hr ?_; (case hd => rfl); (case hg => rfl); (case hr => first | (go_simp; done) | (go_simp; rfl)); intro gb308 hg w86 hbox hb; have n0_ := am_ (blk_below (g := gb304) (o := .cells #[.int .u64 a0_0, .int .u64 a0_1, .int .u64 a0_2, .int .u64 a0_3, .string a0_4, .slice (some ad307) l0_5.length c0_5] 30 (0, 0)) (bx_ BK304) hb); have n1_ := am_ (blk_below (g := gb305) (o := .cells #[.int .u64 a0_2, .int .u64 a0_3, .string a0_4, .slice (some ad307) l0_5.length c0_5] 28 (0, 0)) (bx_ BK305) hb); have n2_ := am_ (below_step (by repeat (first | (with_reducible first | exact HB.out | apply below_alloc | apply pw_below_drewN | apply below_drew1 | refine below_set ?_ GE304.out | refine below_set ?_ GE305.out) | exact HB.out | exact Below.refl _ _)) hb); have n3_ := am_ (hbox); have n4_ := am_ ((by rw [hg]; exact (below_size (hx_ HB)) : w.heap.size ≤ gb308)); have n5_ := am_ ((by rw [hg]; exact (below_size (hx_ HB)) : w.heap.size ≤ gb308)); have n6_ := am_ ((by rw [hg]; exact Nat.ne_of_lt (blk_lt (g := gb304) (o := .cells #[.int .u64 a0_0, .int .u64 a0_1, .int .u64 a0_2, .int .u64 a0_3, .string a0_4, .slice (some ad307) l0_5.length c0_5] 30 (0, 0)) (bx_ BK304)) : gb304 ≠ gb308)); have n7_ := am_ ((by rw [hg]; exact Nat.ne_of_gt (blk_lt (g := gb304) (o := .cells #[.int .u64 a0_0, .int .u64 a0_1, .int .u64 a0_2, .int .u64 a0_3, .string a0_4, .slice (some ad307) l0_5.length c0_5] 30 (0, 0)) (bx_ BK304)) : gb308 ≠ gb304)); have n8_ := am_ ((by rw [hg]; exact Nat.ne_of_lt (blk_lt (g := gb305) (o := .cells #[.int .u64 a0_2, .int .u64 a0_3, .string a0_4, .slice (some ad307) l0_5.length c0_5] 28 (0, 0)) (bx_ BK305)) : gb305 ≠ gb308)); have n9_ := am_ ((by rw [hg]; exact Nat.ne_of_gt (blk_lt (g := gb305) (o := .cells #[.int .u64 a0_2, .int .u64 a0_3, .string a0_4, .slice (some ad307) l0_5.length c0_5] 28 (0, 0)) (bx_ BK305)) : gb308 ≠ gb305)); clear BK304; clear BK305; clear HB; have BK304 := n0_; have BK305 := n1_; have HB := n2_; have BK308 := n3_; have GW308 := n4_; have GE308 := n5_; have NB304_308 := n6_; have NB308_304 := n7_; have NB305_308 := n8_; have NB308_305 := n9_; clear n0_ n1_ n2_ n3_ n4_ n5_ n6_ n7_ n8_ n9_; clear hb hbox hg; have hnb87 := NB308_304.out; have hnc87 := NB304_308.out; have hnb88 := NB308_305.out; have hnc88 := NB305_308.out; have hcz89_0 : w86.cell? ⟨gb308, 0, none⟩ = some (.int .u64 0) := (blk_cell BK308.out 0).trans rfl; have hcz89_1 : w86.cell? ⟨gb308, 1, none⟩ = some (.string (⟨#[]⟩ : ByteArray)) := (blk_cell BK308.out 1).trans rfl; have hfz89_0 := blk_frozen BK308.out 0; have hfz89_1 := blk_frozen BK308.out 1; have hcz90_0 : w86.cell? ⟨gb304, 0, none⟩ = some (.int .u64 a0_0) := (blk_cell BK304.out 0).trans rfl; have hcz90_1 : w86.cell? ⟨gb304, 1, none⟩ = some (.int .u64 a0_1) := (blk_cell BK304.out 1).trans rfl; have hcz90_2 : w86.cell? ⟨gb304, 2, none⟩ = some (.int .u64 a0_2) := (blk_cell BK304.out 2).trans rfl; have hcz90_3 : w86.cell? ⟨gb304, 3, none⟩ = some (.int .u64 a0_3) := (blk_cell BK304.out 3).trans rfl; have hcz90_4 : w86.cell? ⟨gb304, 4, none⟩ = some (.string a0_4) := (blk_cell BK304.out 4).trans rfl; have hcz90_5 : w86.cell? ⟨gb304, 5, none⟩ = some (.slice (some ad307) l0_5.length c0_5) := (blk_cell BK304.out 5).trans rfl; have hfz90_0 := blk_frozen BK304.out 0; have hfz90_1 := blk_frozen BK304.out 1; have hfz90_2 := blk_frozen BK304.out 2; have hfz90_3 := blk_frozen BK304.out 3; have hfz90_4 := blk_frozen BK304.out 4; have hfz90_5 := blk_frozen BK304.out 5; have hcz91_0 : w86.cell? ⟨gb305, 0, none⟩ = some (.int .u64 a0_2) := (blk_cell BK305.out 0).trans rfl; have hcz91_1 : w86.cell? ⟨gb305, 1, none⟩ = some (.int .u64 a0_3) := (blk_cell BK305.out 1).trans rfl; have hcz91_2 : w86.cell? ⟨gb305, 2, none⟩ = some (.string a0_4) := (blk_cell BK305.out 2).trans rfl; have hcz91_3 : w86.cell? ⟨gb305, 3, none⟩ = some (.slice (some ad307) l0_5.length c0_5) := (blk_cell BK305.out 3).trans rfl; have hfz91_0 := blk_frozen BK305.out 0; have hfz91_1 := blk_frozen BK305.out 1; have hfz91_2 := blk_frozen BK305.out 2; have hfz91_3 := blk_frozen BK305.out 3; have p309 : 0 ≤ ((ji71) : Int) := of_decide_eq_true (by first | (with_reducible assumption) | assumption); have q309 : (ji71) < (l0_5.length : Int) := of_decide_eq_true (by first | (with_reducible assumption) | assumption); obtain ⟨ad309, e309, hx309_0, hx309_1⟩ := at_T75 HR0_5.out (ji71) p309 q309; obtain rfl : ad307 = ad309 := (by injection e309); have hn309_0 : ad307.block ≠ gb308 := Nat.ne_of_lt (Nat.lt_of_lt_of_le (by have := World.block_lt_of_cell? _ _ hx309_0; first | rwa [add_block] at this | exact this) GW308.out); have hn309_1 : ad307.block ≠ gb308 := Nat.ne_of_lt (Nat.lt_of_lt_of_le (by have := World.block_lt_of_cell? _ _ hx309_0; first | rwa [add_block] at this | exact this) GW308.out); replace hx309_0 := (HB.out.cell (World.block_lt_of_cell? w _ hx309_0)).trans hx309_0; replace hx309_1 := (HB.out.cell (World.block_lt_of_cell? w _ hx309_1)).trans hx309_1; replace hx309_0 := (cell_far (p := ⟨gb308, 0, none⟩) (by first | (rw [add_block]; exact hn309_0) | (show (Addr.add _ _).block ≠ _; rw [add_block]; exact hn309_0) | exact hn309_0) (.int .u64 ((rd_T75 l0_5 x4_3).f0))).trans hx309_0; replace hx309_1 := (cell_far (p := ⟨gb308, 0, none⟩) (by first | (rw [add_block]; exact hn309_0) | (show (Addr.add _ _).block ≠ _; rw [add_block]; exact hn309_0) | exact hn309_0) (.int .u64 ((rd_T75 l0_5 x4_3).f0))).trans hx309_1; replace hx309_0 := (cell_far (p := ⟨gb308, 1, none⟩) (by first | (rw [add_block]; exact hn309_1) | (show (Addr.add _ _).block ≠ _; rw [add_block]; exact hn309_1) | exact hn309_1) (.string ((rd_T75 l0_5 x4_3).f1))).trans hx309_0; replace hx309_1 := (cell_far (p := ⟨gb308, 1, none⟩) (by first | (rw [add_block]; exact hn309_1) | (show (Addr.add _ _).block ≠ _; rw [add_block]; exact hn309_1) | exact hn309_1) (.string ((rd_T75 l0_5 x4_3).f1))).trans hx309_1; (try have hy309_0 := fun (n_ : Nat) => (show ((((w86.drewN n_).setCell ⟨gb308, 0, none⟩ (.int .u64 ((rd_T75 l0_5 x4_3).f0))).setCell ⟨gb308, 1, none⟩ (.string ((rd_T75 l0_5 x4_3).f1)))).cell? _ = some _ from hx309_0)); (try have hy309_1 := fun (n_ : Nat) => (show ((((w86.drewN n_).setCell ⟨gb308, 0, none⟩ (.int .u64 ((rd_T75 l0_5 x4_3).f0))).setCell ⟨gb308, 1, none⟩ (.string ((rd_T75 l0_5 x4_3).f1)))).cell? _ = some _ from hx309_1)); clear hn309_0; clear hn309_1; replace p309 := eq_true p309; replace q309 := eq_true q309))
                  repeat (go_quiet (first | ((with_reducible refine gate_dst (N := 5) rfl ?_); (try (refine gate_guard (by rfl) ?_; dsimp only)); refine box_event ?hg (N := 5) ?hd (cs := #[.int .u64 0, .string (⟨#[]⟩ : ByteArray)]) (t := 75) ?hr ?_; (case hd => rfl); (case hg => rfl); (case hr => first | (go_simp; done) | (go_simp; rfl)); intro gb308 hg w86 hbox hb; have n0_ := am_ (blk_below (g := gb304) (o := .cells #[.int .u64 a0_0, .int .u64 a0_1, .int .u64 a0_2, .int .u64 a0_3, .string a0_4, .slice (some ad307) l0_5.length c0_5] 30 (0, 0)) (bx_ BK304) hb); have n1_ := am_ (blk_below (g := gb305) (o := .cells #[.int .u64 a0_2, .int .u64 a0_3, .string a0_4, .slice (some ad307) l0_5.length c0_5] 28 (0, 0)) (bx_ BK305) hb); have n2_ := am_ (below_step (by repeat (first | (with_reducible first | exact HB.out | apply below_alloc | apply pw_below_drewN | apply below_drew1 | refine below_set ?_ GE304.out | refine below_set ?_ GE305.out) | exact HB.out | exact Below.refl _ _)) hb); have n3_ := am_ (hbox); have n4_ := am_ ((by rw [hg]; exact (below_size (hx_ HB)) : w.heap.size ≤ gb308)); have n5_ := am_ ((by rw [hg]; exact (below_size (hx_ HB)) : w.heap.size ≤ gb308)); have n6_ := am_ ((by rw [hg]; exact Nat.ne_of_lt (blk_lt (g := gb304) (o := .cells #[.int .u64 a0_0, .int .u64 a0_1, .int .u64 a0_2, .int .u64 a0_3, .string a0_4, .slice (some ad307) l0_5.length c0_5] 30 (0, 0)) (bx_ BK304)) : gb304 ≠ gb308)); have n7_ := am_ ((by rw [hg]; exact Nat.ne_of_gt (blk_lt (g := gb304) (o := .cells #[.int .u64 a0_0, .int .u64 a0_1, .int .u64 a0_2, .int .u64 a0_3, .string a0_4, .slice (some ad307) l0_5.length c0_5] 30 (0, 0)) (bx_ BK304)) : gb308 ≠ gb304)); have n8_ := am_ ((by rw [hg]; exact Nat.ne_of_lt (blk_lt (g := gb305) (o := .cells #[.int .u64 a0_2, .int .u64 a0_3, .string a0_4, .slice (some ad307) l0_5.length c0_5] 28 (0, 0)) (bx_ BK305)) : gb305 ≠ gb308)); have n9_ := am_ ((by rw [hg]; exact Nat.ne_of_gt (blk_lt (g := gb305) (o := .cells #[.int .u64 a0_2, .int .u64 a0_3, .string a0_4, .slice (some ad307) l0_5.length c0_5] 28 (0, 0)) (bx_ BK305)) : gb308 ≠ gb305)); clear BK304; clear BK305; clear HB; have BK304 := n0_; have BK305 := n1_; have HB := n2_; have BK308 := n3_; have GW308 := n4_; have GE308 := n5_; have NB304_308 := n6_; have NB308_304 := n7_; have NB305_308 := n8_; have NB308_305 := n9_; clear n0_ n1_ n2_ n3_ n4_ n5_ n6_ n7_ n8_ n9_; clear hb hbox hg; have hnb87 := NB308_304.out; have hnc87 := NB304_308.out; have hnb88 := NB308_305.out; have hnc88 := NB305_308.out; have hcz89_0 : w86.cell? ⟨gb308, 0, none⟩ = some (.int .u64 0) := (blk_cell BK308.out 0).trans rfl; have hcz89_1 : w86.cell? ⟨gb308, 1, none⟩ = some (.string (⟨#[]⟩ : ByteArray)) := (blk_cell BK308.out 1).trans rfl; have hfz89_0 := blk_frozen BK308.out 0; have hfz89_1 := blk_frozen BK308.out 1; have hcz90_0 : w86.cell? ⟨gb304, 0, none⟩ = some (.int .u64 a0_0) := (blk_cell BK304.out 0).trans rfl; have hcz90_1 : w86.cell? ⟨gb304, 1, none⟩ = some (.int .u64 a0_1) := (blk_cell BK304.out 1).trans rfl; have hcz90_2 : w86.cell? ⟨gb304, 2, none⟩ = some (.int .u64 a0_2) := (blk_cell BK304.out 2).trans rfl; have hcz90_3 : w86.cell? ⟨gb304, 3, none⟩ = some (.int .u64 a0_3) := (blk_cell BK304.out 3).trans rfl; have hcz90_4 : w86.cell? ⟨gb304, 4, none⟩ = some (.string a0_4) := (blk_cell BK304.out 4).trans rfl; have hcz90_5 : w86.cell? ⟨gb304, 5, none⟩ = some (.slice (some ad307) l0_5.length c0_5) := (blk_cell BK304.out 5).trans rfl; have hfz90_0 := blk_frozen BK304.out 0; have hfz90_1 := blk_frozen BK304.out 1; have hfz90_2 := blk_frozen BK304.out 2; have hfz90_3 := blk_frozen BK304.out 3; have hfz90_4 := blk_frozen BK304.out 4; have hfz90_5 := blk_frozen BK304.out 5; have hcz91_0 : w86.cell? ⟨gb305, 0, none⟩ = some (.int .u64 a0_2) := (blk_cell BK305.out 0).trans rfl; have hcz91_1 : w86.cell? ⟨gb305, 1, none⟩ = some (.int .u64 a0_3) := (blk_cell BK305.out 1).trans rfl; have hcz91_2 : w86.cell? ⟨gb305, 2, none⟩ = some (.string a0_4) := (blk_cell BK305.out 2).trans rfl; have hcz91_3 : w86.cell? ⟨gb305, 3, none⟩ = some (.slice (some ad307) l0_5.length c0_5) := (blk_cell BK305.out 3).trans rfl; have hfz91_0 := blk_frozen BK305.out 0; have hfz91_1 := blk_frozen BK305.out 1; have hfz91_2 := blk_frozen BK305.out 2; have hfz91_3 := blk_frozen BK305.out 3; have p309 : 0 ≤ ((ji71) : Int) := of_decide_eq_true (by first | (with_reducible assumption) | assumption); have q309 : (ji71) < (l0_5.length : Int) := of_decide_eq_true (by first | (with_reducible assumption) | assumption); obtain ⟨ad309, e309, hx309_0, hx309_1⟩ := at_T75 HR0_5.out (ji71) p309 q309; obtain rfl : ad307 = ad309 := (by injection e309); have hn309_0 : ad307.block ≠ gb308 := Nat.ne_of_lt (Nat.lt_of_lt_of_le (by have := World.block_lt_of_cell? _ _ hx309_0; first | rwa [add_block] at this | exact this) GW308.out); have hn309_1 : ad307.block ≠ gb308 := Nat.ne_of_lt (Nat.lt_of_lt_of_le (by have := World.block_lt_of_cell? _ _ hx309_0; first | rwa [add_block] at this | exact this) GW308.out); replace hx309_0 := (HB.out.cell (World.block_lt_of_cell? w _ hx309_0)).trans hx309_0; replace hx309_1 := (HB.out.cell (World.block_lt_of_cell? w _ hx309_1)).trans hx309_1; replace hx309_0 := (cell_far (p := ⟨gb308, 0, none⟩) (by first | (rw [add_block]; exact hn309_0) | (show (Addr.add _ _).block ≠ _; rw [add_block]; exact hn309_0) | exact hn309_0) (.int .u64 ((rd_T75 l0_5 x4_3).f0))).trans hx309_0; replace hx309_1 := (cell_far (p := ⟨gb308, 0, none⟩) (by first | (rw [add_block]; exact hn309_0) | (show (Addr.add _ _).block ≠ _; rw [add_block]; exact hn309_0) | exact hn309_0) (.int .u64 ((rd_T75 l0_5 x4_3).f0))).trans hx309_1; replace hx309_0 := (cell_far (p := ⟨gb308, 1, none⟩) (by first | (rw [add_block]; exact hn309_1) | (show (Addr.add _ _).block ≠ _; rw [add_block]; exact hn309_1) | exact hn309_1) (.string ((rd_T75 l0_5 x4_3).f1))).trans hx309_0; replace hx309_1 := (cell_far (p := ⟨gb308, 1, none⟩) (by first | (rw [add_block]; exact hn309_1) | (show (Addr.add _ _).block ≠ _; rw [add_block]; exact hn309_1) | exact hn309_1) (.string ((rd_T75 l0_5 x4_3).f1))).trans hx309_1; (try have hy309_0 := fun (n_ : Nat) => (show ((((w86.drewN n_).setCell ⟨gb308, 0, none⟩ (.int .u64 ((rd_T75 l0_5 x4_3).f0))).setCell ⟨gb308, 1, none⟩ (.string ((rd_T75 l0_5 x4_3).f1)))).cell? _ = some _ from hx309_0)); (try have hy309_1 := fun (n_ : Nat) => (show ((((w86.drewN n_).setCell ⟨gb308, 0, none⟩ (.int .u64 ((rd_T75 l0_5 x4_3).f0))).setCell ⟨gb308, 1, none⟩ (.string ((rd_T75 l0_5 x4_3).f1)))).cell? _ = some _ from hx309_1)); clear hn309_0; clear hn309_1; replace p309 := eq_true p309; replace q309 := eq_true q309)); try go_wp2_with (first | ((with_reducible refine gate_dst (N := 5) rfl ?_); (try (refine gate_guard (by rfl) ?_; dsimp only)); refine box_event ?hg (N := 5) ?hd (cs := #[.int .u64 0, .string (⟨#[]⟩ : ByteArray)]) (t := 75) ?hr ?_; (case hd => rfl); (case hg => rfl); (case hr => first | (go_simp; done) | (go_simp; rfl)); intro gb308 hg w86 hbox hb; have n0_ := am_ (blk_below (g := gb304) (o := .cells #[.int .u64 a0_0, .int .u64 a0_1, .int .u64 a0_2, .int .u64 a0_3, .string a0_4, .slice (some ad307) l0_5.length c0_5] 30 (0, 0)) (bx_ BK304) hb); have n1_ := am_ (blk_below (g := gb305) (o := .cells #[.int .u64 a0_2, .int .u64 a0_3, .string a0_4, .slice (some ad307) l0_5.length c0_5] 28 (0, 0)) (bx_ BK305) hb); have n2_ := am_ (below_step (by repeat (first | (with_reducible first | exact HB.out | apply below_alloc | apply pw_below_drewN | apply below_drew1 | refine below_set ?_ GE304.out | refine below_set ?_ GE305.out) | exact HB.out | exact Below.refl _ _)) hb); have n3_ := am_ (hbox); have n4_ := am_ ((by rw [hg]; exact (below_size (hx_ HB)) : w.heap.size ≤ gb308)); have n5_ := am_ ((by rw [hg]; exact (below_size (hx_ HB)) : w.heap.size ≤ gb308)); have n6_ := am_ ((by rw [hg]; exact Nat.ne_of_lt (blk_lt (g := gb304) (o := .cells #[.int .u64 a0_0, .int .u64 a0_1, .int .u64 a0_2, .int .u64 a0_3, .string a0_4, .slice (some ad307) l0_5.length c0_5] 30 (0, 0)) (bx_ BK304)) : gb304 ≠ gb308)); have n7_ := am_ ((by rw [hg]; exact Nat.ne_of_gt (blk_lt (g := gb304) (o := .cells #[.int .u64 a0_0, .int .u64 a0_1, .int .u64 a0_2, .int .u64 a0_3, .string a0_4, .slice (some ad307) l0_5.length c0_5] 30 (0, 0)) (bx_ BK304)) : gb308 ≠ gb304)); have n8_ := am_ ((by rw [hg]; exact Nat.ne_of_lt (blk_lt (g := gb305) (o := .cells #[.int .u64 a0_2, .int .u64 a0_3, .string a0_4, .slice (some ad307) l0_5.length c0_5] 28 (0, 0)) (bx_ BK305)) : gb305 ≠ gb308)); have n9_ := am_ ((by rw [hg]; exact Nat.ne_of_gt (blk_lt (g := gb305) (o := .cells #[.int .u64 a0_2, .int .u64 a0_3, .string a0_4, .slice (some ad307) l0_5.length c0_5] 28 (0, 0)) (bx_ BK305)) : gb308 ≠ gb305)); clear BK304; clear BK305; clear HB; have BK304 := n0_; have BK305 := n1_; have HB := n2_; have BK308 := n3_; have GW308 := n4_; have GE308 := n5_; have NB304_308 := n6_; have NB308_304 := n7_; have NB305_308 := n8_; have NB308_305 := n9_; clear n0_ n1_ n2_ n3_ n4_ n5_ n6_ n7_ n8_ n9_; clear hb hbox hg; have hnb87 := NB308_304.out; have hnc87 := NB304_308.out; have hnb88 := NB308_305.out; have hnc88 := NB305_308.out; have hcz89_0 : w86.cell? ⟨gb308, 0, none⟩ = some (.int .u64 0) := (blk_cell BK308.out 0).trans rfl; have hcz89_1 : w86.cell? ⟨gb308, 1, none⟩ = some (.string (⟨#[]⟩ : ByteArray)) := (blk_cell BK308.out 1).trans rfl; have hfz89_0 := blk_frozen BK308.out 0; have hfz89_1 := blk_frozen BK308.out 1; have hcz90_0 : w86.cell? ⟨gb304, 0, none⟩ = some (.int .u64 a0_0) := (blk_cell BK304.out 0).trans rfl; have hcz90_1 : w86.cell? ⟨gb304, 1, none⟩ = some (.int .u64 a0_1) := (blk_cell BK304.out 1).trans rfl; have hcz90_2 : w86.cell? ⟨gb304, 2, none⟩ = some (.int .u64 a0_2) := (blk_cell BK304.out 2).trans rfl; have hcz90_3 : w86.cell? ⟨gb304, 3, none⟩ = some (.int .u64 a0_3) := (blk_cell BK304.out 3).trans rfl; have hcz90_4 : w86.cell? ⟨gb304, 4, none⟩ = some (.string a0_4) := (blk_cell BK304.out 4).trans rfl; have hcz90_5 : w86.cell? ⟨gb304, 5, none⟩ = some (.slice (some ad307) l0_5.length c0_5) := (blk_cell BK304.out 5).trans rfl; have hfz90_0 := blk_frozen BK304.out 0; have hfz90_1 := blk_frozen BK304.out 1; have hfz90_2 := blk_frozen BK304.out 2; have hfz90_3 := blk_frozen BK304.out 3; have hfz90_4 := blk_frozen BK304.out 4; have hfz90_5 := blk_frozen BK304.out 5; have hcz91_0 : w86.cell? ⟨gb305, 0, none⟩ = some (.int .u64 a0_2) := (blk_cell BK305.out 0).trans rfl; have hcz91_1 : w86.cell? ⟨gb305, 1, none⟩ = some (.int .u64 a0_3) := (blk_cell BK305.out 1).trans rfl; have hcz91_2 : w86.cell? ⟨gb305, 2, none⟩ = some (.string a0_4) := (blk_cell BK305.out 2).trans rfl; have hcz91_3 : w86.cell? ⟨gb305, 3, none⟩ = some (.slice (some ad307) l0_5.length c0_5) := (blk_cell BK305.out 3).trans rfl; have hfz91_0 := blk_frozen BK305.out 0; have hfz91_1 := blk_frozen BK305.out 1; have hfz91_2 := blk_frozen BK305.out 2; have hfz91_3 := blk_frozen BK305.out 3; have p309 : 0 ≤ ((ji71) : Int) := of_decide_eq_true (by first | (with_reducible assumption) | assumption); have q309 : (ji71) < (l0_5.length : Int) := of_decide_eq_true (by first | (with_reducible assumption) | assumption); obtain ⟨ad309, e309, hx309_0, hx309_1⟩ := at_T75 HR0_5.out (ji71) p309 q309; obtain rfl : ad307 = ad309 := (by injection e309); have hn309_0 : ad307.block ≠ gb308 := Nat.ne_of_lt (Nat.lt_of_lt_of_le (by have := World.block_lt_of_cell? _ _ hx309_0; first | rwa [add_block] at this | exact this) GW308.out); have hn309_1 : ad307.block ≠ gb308 := Nat.ne_of_lt (Nat.lt_of_lt_of_le (by have := World.block_lt_of_cell? _ _ hx309_0; first | rwa [add_block] at this | exact this) GW308.out); replace hx309_0 := (HB.out.cell (World.block_lt_of_cell? w _ hx309_0)).trans hx309_0; replace hx309_1 := (HB.out.cell (World.block_lt_of_cell? w _ hx309_1)).trans hx309_1; replace hx309_0 := (cell_far (p := ⟨gb308, 0, none⟩) (by first | (rw [add_block]; exact hn309_0) | (show (Addr.add _ _).block ≠ _; rw [add_block]; exact hn309_0) | exact hn309_0) (.int .u64 ((rd_T75 l0_5 x4_3).f0))).trans hx309_0; replace hx309_1 := (cell_far (p := ⟨gb308, 0, none⟩) (by first | (rw [add_block]; exact hn309_0) | (show (Addr.add _ _).block ≠ _; rw [add_block]; exact hn309_0) | exact hn309_0) (.int .u64 ((rd_T75 l0_5 x4_3).f0))).trans hx309_1; replace hx309_0 := (cell_far (p := ⟨gb308, 1, none⟩) (by first | (rw [add_block]; exact hn309_1) | (show (Addr.add _ _).block ≠ _; rw [add_block]; exact hn309_1) | exact hn309_1) (.string ((rd_T75 l0_5 x4_3).f1))).trans hx309_0; replace hx309_1 := (cell_far (p := ⟨gb308, 1, none⟩) (by first | (rw [add_block]; exact hn309_1) | (show (Addr.add _ _).block ≠ _; rw [add_block]; exact hn309_1) | exact hn309_1) (.string ((rd_T75 l0_5 x4_3).f1))).trans hx309_1; (try have hy309_0 := fun (n_ : Nat) => (show ((((w86.drewN n_).setCell ⟨gb308, 0, none⟩ (.int .u64 ((rd_T75 l0_5 x4_3).f0))).setCell ⟨gb308, 1, none⟩ (.string ((rd_T75 l0_5 x4_3).f1)))).cell? _ = some _ from hx309_0)); (try have hy309_1 := fun (n_ : Nat) => (show ((((w86.drewN n_).setCell ⟨gb308, 0, none⟩ (.int .u64 ((rd_T75 l0_5 x4_3).f0))).setCell ⟨gb308, 1, none⟩ (.string ((rd_T75 l0_5 x4_3).f1)))).cell? _ = some _ from hx309_1)); clear hn309_0; clear hn309_1; replace p309 := eq_true p309; replace q309 := eq_true q309)))
                  go_ret
                  exact ⟨by first | rfl | (simp [errW_none, errW_some] <;> rfl) | (simp only [← hji71]; first | rfl | (simp [errW_none, errW_some] <;> rfl)) | (simp [*, errW_none, errW_some] <;> rfl), hx_ HB⟩
                 ·rw [if_neg c83] at H
                  have c83b0 : decide (4096 < (((rd_T75 l0_5 x4_3).f1).size : Int)) = false := decide_eq_false c83
                  have c83b1 : decide (4096 < ((rd_T75 l0_5 x4_3).f1).size) = false := decide_eq_false (by omega)
                  clear c83
                  have H' := am_ H
                  clear H
                  have hnb92 := NB305_304.out
                  have hnc92 := NB304_305.out
                  have hcz93_0 : wr.cell? ⟨gb305, 0, none⟩ = some (.int .u64 a0_2) := (blk_cell BK305.out 0).trans rfl
                  have hcz93_1 : wr.cell? ⟨gb305, 1, none⟩ = some (.int .u64 a0_3) := (blk_cell BK305.out 1).trans rfl
                  have hcz93_2 : wr.cell? ⟨gb305, 2, none⟩ = some (.string a0_4) := (blk_cell BK305.out 2).trans rfl
                  have hcz93_3 : wr.cell? ⟨gb305, 3, none⟩ = some (.slice A0_5 l0_5.length c0_5) := (blk_cell BK305.out 3).trans rfl
                  have hfz93_0 := blk_frozen BK305.out 0
                  have hfz93_1 := blk_frozen BK305.out 1
                  have hfz93_2 := blk_frozen BK305.out 2
                  have hfz93_3 := blk_frozen BK305.out 3
                  have p307 : 0 ≤ (x4_3 : Int) := of_decide_eq_true (by first | (with_reducible assumption) | assumption)
                  have q307 : x4_3 < (l0_5.length : Int) := of_decide_eq_true (by first | (with_reducible assumption) | assumption)
                  obtain ⟨ad307, e307, hx307_0, hx307_1⟩ := at_T75 HR0_5.out x4_3 p307 q307
                  cases e307
                  replace hx307_0 := (HB.out.cell (World.block_lt_of_cell? w _ hx307_0)).trans hx307_0
                  replace hx307_1 := (HB.out.cell (World.block_lt_of_cell? w _ hx307_1)).trans hx307_1
                  replace p307 := eq_true p307
                  replace q307 := eq_true q307
                  go_wp2_with (first | ((with_reducible refine gate_dst (N := 5) rfl ?_); (try (refine gate_guard (by rfl) ?_; dsimp only)); refine box_event ?hg (N := 5) ?hd (cs := #[.int .u64 0, .string (⟨#[]⟩ : ByteArray)]) (t := 75) ?hr ?_; (case hd => rfl); (case hg => rfl); (case hr => first | (go_simp; done) | (go_simp; rfl)); intro gb308 hg w94 hbox hb; have n0_ := am_ (blk_below (g := gb304) (o := .cells #[.int .u64 a0_0, .int .u64 a0_1, .int .u64 a0_2, .int .u64 a0_3, .string a0_4, .slice (some ad307) l0_5.length c0_5] 30 (0, 0)) (bx_ BK304) hb); have n1_ := am_ (blk_below (g := gb305) (o := .cells #[.int .u64 a0_2, .int .u64 a0_3, .string a0_4, .slice (some ad307) l0_5.length c0_5] 28 (0, 0)) (bx_ BK305) hb); have n2_ := am_ (below_step (by repeat (first | (with_reducible first | exact HB.out | apply below_alloc | apply pw_below_drewN | apply below_drew1 | refine below_set ?_ GE304.out | refine below_set ?_ GE305.out) | exact HB.out | exact Below.refl _ _)) hb); have n3_ := am_ (hbox); have n4_ := am_ ((by rw [hg]; exact (below_size (hx_ HB)) : w.heap.size ≤ gb308)); have n5_ := am_ ((by rw [hg]; exact (below_size (hx_ HB)) : w.heap.size ≤ gb308)); have n6_ := am_ ((by rw [hg]; exact Nat.ne_of_lt (blk_lt (g := gb304) (o := .cells #[.int .u64 a0_0, .int .u64 a0_1, .int .u64 a0_2, .int .u64 a0_3, .string a0_4, .slice (some ad307) l0_5.length c0_5] 30 (0, 0)) (bx_ BK304)) : gb304 ≠ gb308)); have n7_ := am_ ((by rw [hg]; exact Nat.ne_of_gt (blk_lt (g := gb304) (o := .cells #[.int .u64 a0_0, .int .u64 a0_1, .int .u64 a0_2, .int .u64 a0_3, .string a0_4, .slice (some ad307) l0_5.length c0_5] 30 (0, 0)) (bx_ BK304)) : gb308 ≠ gb304)); have n8_ := am_ ((by rw [hg]; exact Nat.ne_of_lt (blk_lt (g := gb305) (o := .cells #[.int .u64 a0_2, .int .u64 a0_3, .string a0_4, .slice (some ad307) l0_5.length c0_5] 28 (0, 0)) (bx_ BK305)) : gb305 ≠ gb308)); have n9_ := am_ ((by rw [hg]; exact Nat.ne_of_gt (blk_lt (g := gb305) (o := .cells #[.int .u64 a0_2, .int .u64 a0_3, .string a0_4, .slice (some ad307) l0_5.length c0_5] 28 (0, 0)) (bx_ BK305)) : gb308 ≠ gb305)); clear BK304; clear BK305; clear HB; have BK304 := n0_; have BK305 := n1_; have HB := n2_; have BK308 := n3_; have GW308 := n4_; have GE308 := n5_; have NB304_308 := n6_; have NB308_304 := n7_; have NB305_308 := n8_; have NB308_305 := n9_; clear n0_ n1_ n2_ n3_ n4_ n5_ n6_ n7_ n8_ n9_; clear hb hbox hg; have hnb95 := NB308_304.out; have hnc95 := NB304_308.out; have hnb96 := NB308_305.out; have hnc96 := NB305_308.out; have hcz97_0 : w94.cell? ⟨gb308, 0, none⟩ = some (.int .u64 0) := (blk_cell BK308.out 0).trans rfl; have hcz97_1 : w94.cell? ⟨gb308, 1, none⟩ = some (.string (⟨#[]⟩ : ByteArray)) := (blk_cell BK308.out 1).trans rfl; have hfz97_0 := blk_frozen BK308.out 0; have hfz97_1 := blk_frozen BK308.out 1; have hcz98_0 : w94.cell? ⟨gb304, 0, none⟩ = some (.int .u64 a0_0) := (blk_cell BK304.out 0).trans rfl; have hcz98_1 : w94.cell? ⟨gb304, 1, none⟩ = some (.int .u64 a0_1) := (blk_cell BK304.out 1).trans rfl; have hcz98_2 : w94.cell? ⟨gb304, 2, none⟩ = some (.int .u64 a0_2) := (blk_cell BK304.out 2).trans rfl; have hcz98_3 : w94.cell? ⟨gb304, 3, none⟩ = some (.int .u64 a0_3) := (blk_cell BK304.out 3).trans rfl; have hcz98_4 : w94.cell? ⟨gb304, 4, none⟩ = some (.string a0_4) := (blk_cell BK304.out 4).trans rfl; have hcz98_5 : w94.cell? ⟨gb304, 5, none⟩ = some (.slice (some ad307) l0_5.length c0_5) := (blk_cell BK304.out 5).trans rfl; have hfz98_0 := blk_frozen BK304.out 0; have hfz98_1 := blk_frozen BK304.out 1; have hfz98_2 := blk_frozen BK304.out 2; have hfz98_3 := blk_frozen BK304.out 3; have hfz98_4 := blk_frozen BK304.out 4; have hfz98_5 := blk_frozen BK304.out 5; have hcz99_0 : w94.cell? ⟨gb305, 0, none⟩ = some (.int .u64 a0_2) := (blk_cell BK305.out 0).trans rfl; have hcz99_1 : w94.cell? ⟨gb305, 1, none⟩ = some (.int .u64 a0_3) := (blk_cell BK305.out 1).trans rfl; have hcz99_2 : w94.cell? ⟨gb305, 2, none⟩ = some (.string a0_4) := (blk_cell BK305.out 2).trans rfl; have hcz99_3 : w94.cell? ⟨gb305, 3, none⟩ = some (.slice (some ad307) l0_5.length c0_5) := (blk_cell BK305.out 3).trans rfl; have hfz99_0 := blk_frozen BK305.out 0; have hfz99_1 := blk_frozen BK305.out 1; have hfz99_2 := blk_frozen BK305.out 2; have hfz99_3 := blk_frozen BK305.out 3; have p309 : 0 ≤ ((ji71) : Int) := of_decide_eq_true (by first | (with_reducible assumption) | assumption); have q309 : (ji71) < (l0_5.length : Int) := of_decide_eq_true (by first | (with_reducible assumption) | assumption); obtain ⟨ad309, e309, hx309_0, hx309_1⟩ := at_T75 HR0_5.out (ji71) p309 q309; obtain rfl : ad307 = ad309 := (by injection e309); have hn309_0 : ad307.block ≠ gb308 := Nat.ne_of_lt (Nat.lt_of_lt_of_le (by have := World.block_lt_of_cell? _ _ hx309_0; first | rwa [add_block] at this | exact this) GW308.out); have hn309_1 : ad307.block ≠ gb308 := Nat.ne_of_lt (Nat.lt_of_lt_of_le (by have := World.block_lt_of_cell? _ _ hx309_0; first | rwa [add_block] at this | exact this) GW308.out); replace hx309_0 := (HB.out.cell (World.block_lt_of_cell? w _ hx309_0)).trans hx309_0; replace hx309_1 := (HB.out.cell (World.block_lt_of_cell? w _ hx309_1)).trans hx309_1; replace hx309_0 := (cell_far (p := ⟨gb308, 0, none⟩) (by first | (rw [add_block]; exact hn309_0) | (show (Addr.add _ _).block ≠ _; rw [add_block]; exact hn309_0) | exact hn309_0) (.int .u64 ((rd_T75 l0_5 x4_3).f0))).trans hx309_0; replace hx309_1 := (cell_far (p := ⟨gb308, 0, none⟩) (by first | (rw [add_block]; exact hn309_0) | (show (Addr.add _ _).block ≠ _; rw [add_block]; exact hn309_0) | exact hn309_0) (.int .u64 ((rd_T75 l0_5 x4_3).f0))).trans hx309_1; replace hx309_0 := (cell_far (p := ⟨gb308, 1, none⟩) (by first | (rw [add_block]; exact hn309_1) | (show (Addr.add _ _).block ≠ _; rw [add_block]; exact hn309_1) | exact hn309_1) (.string ((rd_T75 l0_5 x4_3).f1))).trans hx309_0; replace hx309_1 := (cell_far (p := ⟨gb308, 1, none⟩) (by first | (rw [add_block]; exact hn309_1) | (show (Addr.add _ _).block ≠ _; rw [add_block]; exact hn309_1) | exact hn309_1) (.string ((rd_T75 l0_5 x4_3).f1))).trans hx309_1; (try have hy309_0 := fun (n_ : Nat) => (show ((((w94.drewN n_).setCell ⟨gb308, 0, none⟩ (.int .u64 ((rd_T75 l0_5 x4_3).f0))).setCell ⟨gb308, 1, none⟩ (.string ((rd_T75 l0_5 x4_3).f1)))).cell? _ = some _ from hx309_0)); (try have hy309_1 := fun (n_ : Nat) => (show ((((w94.drewN n_).setCell ⟨gb308, 0, none⟩ (.int .u64 ((rd_T75 l0_5 x4_3).f0))).setCell ⟨gb308, 1, none⟩ (.string ((rd_T75 l0_5 x4_3).f1)))).cell? _ = some _ from hx309_1)); clear hn309_0; clear hn309_1; replace p309 := eq_true p309; replace q309 := eq_true q309))
                  repeat (go_quiet (first | ((with_reducible refine gate_dst (N := 5) rfl ?_); (try (refine gate_guard (by rfl) ?_; dsimp only)); refine box_event ?hg (N := 5) ?hd (cs := #[.int .u64 0, .string (⟨#[]⟩ : ByteArray)]) (t := 75) ?hr ?_; (case hd => rfl); (case hg => rfl); (case hr => first | (go_simp; done) | (go_simp; rfl)); intro gb308 hg w94 hbox hb; have n0_ := am_ (blk_below (g := gb304) (o := .cells #[.int .u64 a0_0, .int .u64 a0_1, .int .u64 a0_2, .int .u64 a0_3, .string a0_4, .slice (some ad307) l0_5.length c0_5] 30 (0, 0)) (bx_ BK304) hb); have n1_ := am_ (blk_below (g := gb305) (o := .cells #[.int .u64 a0_2, .int .u64 a0_3, .string a0_4, .slice (some ad307) l0_5.length c0_5] 28 (0, 0)) (bx_ BK305) hb); have n2_ := am_ (below_step (by repeat (first | (with_reducible first | exact HB.out | apply below_alloc | apply pw_below_drewN | apply below_drew1 | refine below_set ?_ GE304.out | refine below_set ?_ GE305.out) | exact HB.out | exact Below.refl _ _)) hb); have n3_ := am_ (hbox); have n4_ := am_ ((by rw [hg]; exact (below_size (hx_ HB)) : w.heap.size ≤ gb308)); have n5_ := am_ ((by rw [hg]; exact (below_size (hx_ HB)) : w.heap.size ≤ gb308)); have n6_ := am_ ((by rw [hg]; exact Nat.ne_of_lt (blk_lt (g := gb304) (o := .cells #[.int .u64 a0_0, .int .u64 a0_1, .int .u64 a0_2, .int .u64 a0_3, .string a0_4, .slice (some ad307) l0_5.length c0_5] 30 (0, 0)) (bx_ BK304)) : gb304 ≠ gb308)); have n7_ := am_ ((by rw [hg]; exact Nat.ne_of_gt (blk_lt (g := gb304) (o := .cells #[.int .u64 a0_0, .int .u64 a0_1, .int .u64 a0_2, .int .u64 a0_3, .string a0_4, .slice (some ad307) l0_5.length c0_5] 30 (0, 0)) (bx_ BK304)) : gb308 ≠ gb304)); have n8_ := am_ ((by rw [hg]; exact Nat.ne_of_lt (blk_lt (g := gb305) (o := .cells #[.int .u64 a0_2, .int .u64 a0_3, .string a0_4, .slice (some ad307) l0_5.length c0_5] 28 (0, 0)) (bx_ BK305)) : gb305 ≠ gb308)); have n9_ := am_ ((by rw [hg]; exact Nat.ne_of_gt (blk_lt (g := gb305) (o := .cells #[.int .u64 a0_2, .int .u64 a0_3, .string a0_4, .slice (some ad307) l0_5.length c0_5] 28 (0, 0)) (bx_ BK305)) : gb308 ≠ gb305)); clear BK304; clear BK305; clear HB; have BK304 := n0_; have BK305 := n1_; have HB := n2_; have BK308 := n3_; have GW308 := n4_; have GE308 := n5_; have NB304_308 := n6_; have NB308_304 := n7_; have NB305_308 := n8_; have NB308_305 := n9_; clear n0_ n1_ n2_ n3_ n4_ n5_ n6_ n7_ n8_ n9_; clear hb hbox hg; have hnb95 := NB308_304.out; have hnc95 := NB304_308.out; have hnb96 := NB308_305.out; have hnc96 := NB305_308.out; have hcz97_0 : w94.cell? ⟨gb308, 0, none⟩ = some (.int .u64 0) := (blk_cell BK308.out 0).trans rfl; have hcz97_1 : w94.cell? ⟨gb308, 1, none⟩ = some (.string (⟨#[]⟩ : ByteArray)) := (blk_cell BK308.out 1).trans rfl; have hfz97_0 := blk_frozen BK308.out 0; have hfz97_1 := blk_frozen BK308.out 1; have hcz98_0 : w94.cell? ⟨gb304, 0, none⟩ = some (.int .u64 a0_0) := (blk_cell BK304.out 0).trans rfl; have hcz98_1 : w94.cell? ⟨gb304, 1, none⟩ = some (.int .u64 a0_1) := (blk_cell BK304.out 1).trans rfl; have hcz98_2 : w94.cell? ⟨gb304, 2, none⟩ = some (.int .u64 a0_2) := (blk_cell BK304.out 2).trans rfl; have hcz98_3 : w94.cell? ⟨gb304, 3, none⟩ = some (.int .u64 a0_3) := (blk_cell BK304.out 3).trans rfl; have hcz98_4 : w94.cell? ⟨gb304, 4, none⟩ = some (.string a0_4) := (blk_cell BK304.out 4).trans rfl; have hcz98_5 : w94.cell? ⟨gb304, 5, none⟩ = some (.slice (some ad307) l0_5.length c0_5) := (blk_cell BK304.out 5).trans rfl; have hfz98_0 := blk_frozen BK304.out 0; have hfz98_1 := blk_frozen BK304.out 1; have hfz98_2 := blk_frozen BK304.out 2; have hfz98_3 := blk_frozen BK304.out 3; have hfz98_4 := blk_frozen BK304.out 4; have hfz98_5 := blk_frozen BK304.out 5; have hcz99_0 : w94.cell? ⟨gb305, 0, none⟩ = some (.int .u64 a0_2) := (blk_cell BK305.out 0).trans rfl; have hcz99_1 : w94.cell? ⟨gb305, 1, none⟩ = some (.int .u64 a0_3) := (blk_cell BK305.out 1).trans rfl; have hcz99_2 : w94.cell? ⟨gb305, 2, none⟩ = some (.string a0_4) := (blk_cell BK305.out 2).trans rfl; have hcz99_3 : w94.cell? ⟨gb305, 3, none⟩ = some (.slice (some ad307) l0_5.length c0_5) := (blk_cell BK305.out 3).trans rfl; have hfz99_0 := blk_frozen BK305.out 0; have hfz99_1 := blk_frozen BK305.out 1; have hfz99_2 := blk_frozen BK305.out 2; have hfz99_3 := blk_frozen BK305.out 3; have p309 : 0 ≤ ((ji71) : Int) := of_decide_eq_true (by first | (with_reducible assumption) | assumption); have q309 : (ji71) < (l0_5.length : Int) := of_decide_eq_true (by first | (with_reducible assumption) | assumption); obtain ⟨ad309, e309, hx309_0, hx309_1⟩ := at_T75 HR0_5.out (ji71) p309 q309; obtain rfl : ad307 = ad309 := (by injection e309); have hn309_0 : ad307.block ≠ gb308 := Nat.ne_of_lt (Nat.lt_of_lt_of_le (by have := World.block_lt_of_cell? _ _ hx309_0; first | rwa [add_block] at this | exact this) GW308.out); have hn309_1 : ad307.block ≠ gb308 := Nat.ne_of_lt (Nat.lt_of_lt_of_le (by have := World.block_lt_of_cell? _ _ hx309_0; first | rwa [add_block] at this | exact this) GW308.out); replace hx309_0 := (HB.out.cell (World.block_lt_of_cell? w _ hx309_0)).trans hx309_0; replace hx309_1 := (HB.out.cell (World.block_lt_of_cell? w _ hx309_1)).trans hx309_1; replace hx309_0 := (cell_far (p := ⟨gb308, 0, none⟩) (by first | (rw [add_block]; exact hn309_0) | (show (Addr.add _ _).block ≠ _; rw [add_block]; exact hn309_0) | exact hn309_0) (.int .u64 ((rd_T75 l0_5 x4_3).f0))).trans hx309_0; replace hx309_1 := (cell_far (p := ⟨gb308, 0, none⟩) (by first | (rw [add_block]; exact hn309_0) | (show (Addr.add _ _).block ≠ _; rw [add_block]; exact hn309_0) | exact hn309_0) (.int .u64 ((rd_T75 l0_5 x4_3).f0))).trans hx309_1; replace hx309_0 := (cell_far (p := ⟨gb308, 1, none⟩) (by first | (rw [add_block]; exact hn309_1) | (show (Addr.add _ _).block ≠ _; rw [add_block]; exact hn309_1) | exact hn309_1) (.string ((rd_T75 l0_5 x4_3).f1))).trans hx309_0; replace hx309_1 := (cell_far (p := ⟨gb308, 1, none⟩) (by first | (rw [add_block]; exact hn309_1) | (show (Addr.add _ _).block ≠ _; rw [add_block]; exact hn309_1) | exact hn309_1) (.string ((rd_T75 l0_5 x4_3).f1))).trans hx309_1; (try have hy309_0 := fun (n_ : Nat) => (show ((((w94.drewN n_).setCell ⟨gb308, 0, none⟩ (.int .u64 ((rd_T75 l0_5 x4_3).f0))).setCell ⟨gb308, 1, none⟩ (.string ((rd_T75 l0_5 x4_3).f1)))).cell? _ = some _ from hx309_0)); (try have hy309_1 := fun (n_ : Nat) => (show ((((w94.drewN n_).setCell ⟨gb308, 0, none⟩ (.int .u64 ((rd_T75 l0_5 x4_3).f0))).setCell ⟨gb308, 1, none⟩ (.string ((rd_T75 l0_5 x4_3).f1)))).cell? _ = some _ from hx309_1)); clear hn309_0; clear hn309_1; replace p309 := eq_true p309; replace q309 := eq_true q309)); try go_wp2_with (first | ((with_reducible refine gate_dst (N := 5) rfl ?_); (try (refine gate_guard (by rfl) ?_; dsimp only)); refine box_event ?hg (N := 5) ?hd (cs := #[.int .u64 0, .string (⟨#[]⟩ : ByteArray)]) (t := 75) ?hr ?_; (case hd => rfl); (case hg => rfl); (case hr => first | (go_simp; done) | (go_simp; rfl)); intro gb308 hg w94 hbox hb; have n0_ := am_ (blk_below (g := gb304) (o := .cells #[.int .u64 a0_0, .int .u64 a0_1, .int .u64 a0_2, .int .u64 a0_3, .string a0_4, .slice (some ad307) l0_5.length c0_5] 30 (0, 0)) (bx_ BK304) hb); have n1_ := am_ (blk_below (g := gb305) (o := .cells #[.int .u64 a0_2, .int .u64 a0_3, .string a0_4, .slice (some ad307) l0_5.length c0_5] 28 (0, 0)) (bx_ BK305) hb); have n2_ := am_ (below_step (by repeat (first | (with_reducible first | exact HB.out | apply below_alloc | apply pw_below_drewN | apply below_drew1 | refine below_set ?_ GE304.out | refine below_set ?_ GE305.out) | exact HB.out | exact Below.refl _ _)) hb); have n3_ := am_ (hbox); have n4_ := am_ ((by rw [hg]; exact (below_size (hx_ HB)) : w.heap.size ≤ gb308)); have n5_ := am_ ((by rw [hg]; exact (below_size (hx_ HB)) : w.heap.size ≤ gb308)); have n6_ := am_ ((by rw [hg]; exact Nat.ne_of_lt (blk_lt (g := gb304) (o := .cells #[.int .u64 a0_0, .int .u64 a0_1, .int .u64 a0_2, .int .u64 a0_3, .string a0_4, .slice (some ad307) l0_5.length c0_5] 30 (0, 0)) (bx_ BK304)) : gb304 ≠ gb308)); have n7_ := am_ ((by rw [hg]; exact Nat.ne_of_gt (blk_lt (g := gb304) (o := .cells #[.int .u64 a0_0, .int .u64 a0_1, .int .u64 a0_2, .int .u64 a0_3, .string a0_4, .slice (some ad307) l0_5.length c0_5] 30 (0, 0)) (bx_ BK304)) : gb308 ≠ gb304)); have n8_ := am_ ((by rw [hg]; exact Nat.ne_of_lt (blk_lt (g := gb305) (o := .cells #[.int .u64 a0_2, .int .u64 a0_3, .string a0_4, .slice (some ad307) l0_5.length c0_5] 28 (0, 0)) (bx_ BK305)) : gb305 ≠ gb308)); have n9_ := am_ ((by rw [hg]; exact Nat.ne_of_gt (blk_lt (g := gb305) (o := .cells #[.int .u64 a0_2, .int .u64 a0_3, .string a0_4, .slice (some ad307) l0_5.length c0_5] 28 (0, 0)) (bx_ BK305)) : gb308 ≠ gb305)); clear BK304; clear BK305; clear HB; have BK304 := n0_; have BK305 := n1_; have HB := n2_; have BK308 := n3_; have GW308 := n4_; have GE308 := n5_; have NB304_308 := n6_; have NB308_304 := n7_; have NB305_308 := n8_; have NB308_305 := n9_; clear n0_ n1_ n2_ n3_ n4_ n5_ n6_ n7_ n8_ n9_; clear hb hbox hg; have hnb95 := NB308_304.out; have hnc95 := NB304_308.out; have hnb96 := NB308_305.out; have hnc96 := NB305_308.out; have hcz97_0 : w94.cell? ⟨gb308, 0, none⟩ = some (.int .u64 0) := (blk_cell BK308.out 0).trans rfl; have hcz97_1 : w94.cell? ⟨gb308, 1, none⟩ = some (.string (⟨#[]⟩ : ByteArray)) := (blk_cell BK308.out 1).trans rfl; have hfz97_0 := blk_frozen BK308.out 0; have hfz97_1 := blk_frozen BK308.out 1; have hcz98_0 : w94.cell? ⟨gb304, 0, none⟩ = some (.int .u64 a0_0) := (blk_cell BK304.out 0).trans rfl; have hcz98_1 : w94.cell? ⟨gb304, 1, none⟩ = some (.int .u64 a0_1) := (blk_cell BK304.out 1).trans rfl; have hcz98_2 : w94.cell? ⟨gb304, 2, none⟩ = some (.int .u64 a0_2) := (blk_cell BK304.out 2).trans rfl; have hcz98_3 : w94.cell? ⟨gb304, 3, none⟩ = some (.int .u64 a0_3) := (blk_cell BK304.out 3).trans rfl; have hcz98_4 : w94.cell? ⟨gb304, 4, none⟩ = some (.string a0_4) := (blk_cell BK304.out 4).trans rfl; have hcz98_5 : w94.cell? ⟨gb304, 5, none⟩ = some (.slice (some ad307) l0_5.length c0_5) := (blk_cell BK304.out 5).trans rfl; have hfz98_0 := blk_frozen BK304.out 0; have hfz98_1 := blk_frozen BK304.out 1; have hfz98_2 := blk_frozen BK304.out 2; have hfz98_3 := blk_frozen BK304.out 3; have hfz98_4 := blk_frozen BK304.out 4; have hfz98_5 := blk_frozen BK304.out 5; have hcz99_0 : w94.cell? ⟨gb305, 0, none⟩ = some (.int .u64 a0_2) := (blk_cell BK305.out 0).trans rfl; have hcz99_1 : w94.cell? ⟨gb305, 1, none⟩ = some (.int .u64 a0_3) := (blk_cell BK305.out 1).trans rfl; have hcz99_2 : w94.cell? ⟨gb305, 2, none⟩ = some (.string a0_4) := (blk_cell BK305.out 2).trans rfl; have hcz99_3 : w94.cell? ⟨gb305, 3, none⟩ = some (.slice (some ad307) l0_5.length c0_5) := (blk_cell BK305.out 3).trans rfl; have hfz99_0 := blk_frozen BK305.out 0; have hfz99_1 := blk_frozen BK305.out 1; have hfz99_2 := blk_frozen BK305.out 2; have hfz99_3 := blk_frozen BK305.out 3; have p309 : 0 ≤ ((ji71) : Int) := of_decide_eq_true (by first | (with_reducible assumption) | assumption); have q309 : (ji71) < (l0_5.length : Int) := of_decide_eq_true (by first | (with_reducible assumption) | assumption); obtain ⟨ad309, e309, hx309_0, hx309_1⟩ := at_T75 HR0_5.out (ji71) p309 q309; obtain rfl : ad307 = ad309 := (by injection e309); have hn309_0 : ad307.block ≠ gb308 := Nat.ne_of_lt (Nat.lt_of_lt_of_le (by have := World.block_lt_of_cell? _ _ hx309_0; first | rwa [add_block] at this | exact this) GW308.out); have hn309_1 : ad307.block ≠ gb308 := Nat.ne_of_lt (Nat.lt_of_lt_of_le (by have := World.block_lt_of_cell? _ _ hx309_0; first | rwa [add_block] at this | exact this) GW308.out); replace hx309_0 := (HB.out.cell (World.block_lt_of_cell? w _ hx309_0)).trans hx309_0; replace hx309_1 := (HB.out.cell (World.block_lt_of_cell? w _ hx309_1)).trans hx309_1; replace hx309_0 := (cell_far (p := ⟨gb308, 0, none⟩) (by first | (rw [add_block]; exact hn309_0) | (show (Addr.add _ _).block ≠ _; rw [add_block]; exact hn309_0) | exact hn309_0) (.int .u64 ((rd_T75 l0_5 x4_3).f0))).trans hx309_0; replace hx309_1 := (cell_far (p := ⟨gb308, 0, none⟩) (by first | (rw [add_block]; exact hn309_0) | (show (Addr.add _ _).block ≠ _; rw [add_block]; exact hn309_0) | exact hn309_0) (.int .u64 ((rd_T75 l0_5 x4_3).f0))).trans hx309_1; replace hx309_0 := (cell_far (p := ⟨gb308, 1, none⟩) (by first | (rw [add_block]; exact hn309_1) | (show (Addr.add _ _).block ≠ _; rw [add_block]; exact hn309_1) | exact hn309_1) (.string ((rd_T75 l0_5 x4_3).f1))).trans hx309_0; replace hx309_1 := (cell_far (p := ⟨gb308, 1, none⟩) (by first | (rw [add_block]; exact hn309_1) | (show (Addr.add _ _).block ≠ _; rw [add_block]; exact hn309_1) | exact hn309_1) (.string ((rd_T75 l0_5 x4_3).f1))).trans hx309_1; (try have hy309_0 := fun (n_ : Nat) => (show ((((w94.drewN n_).setCell ⟨gb308, 0, none⟩ (.int .u64 ((rd_T75 l0_5 x4_3).f0))).setCell ⟨gb308, 1, none⟩ (.string ((rd_T75 l0_5 x4_3).f1)))).cell? _ = some _ from hx309_0)); (try have hy309_1 := fun (n_ : Nat) => (show ((((w94.drewN n_).setCell ⟨gb308, 0, none⟩ (.int .u64 ((rd_T75 l0_5 x4_3).f0))).setCell ⟨gb308, 1, none⟩ (.string ((rd_T75 l0_5 x4_3).f1)))).cell? _ = some _ from hx309_1)); clear hn309_0; clear hn309_1; replace p309 := eq_true p309; replace q309 := eq_true q309)))
                  go_roundg k3
                  case measure => have := HJ1.out; have := HJ40.out; have := HK3.out; omega
                  case rel => exact ⟨(wrap64 (x4_3 + 1)), (by first | rfl | (simp; done) | (simp [*]; done)), H', ⟨by have := HJ1.out; have := HJ40.out; have := HK3.out; omega⟩, ⟨by (with_reducible repeat (first | refine blk_drewN ?_ _ | refine blk_drew ?_ | refine blk_alloc ?_ _)); refine blk_far ?_ NB304_308.out _; (with_reducible repeat (first | refine blk_drewN ?_ _ | refine blk_drew ?_ | refine blk_alloc ?_ _)); refine blk_far ?_ NB304_308.out _; (with_reducible repeat (first | refine blk_drewN ?_ _ | refine blk_drew ?_ | refine blk_alloc ?_ _)); exact BK304.out⟩, ⟨by (with_reducible repeat (first | refine blk_drewN ?_ _ | refine blk_drew ?_ | refine blk_alloc ?_ _)); refine blk_far ?_ NB305_308.out _; (with_reducible repeat (first | refine blk_drewN ?_ _ | refine blk_drew ?_ | refine blk_alloc ?_ _)); refine blk_far ?_ NB305_308.out _; (with_reducible repeat (first | refine blk_drewN ?_ _ | refine blk_drew ?_ | refine blk_alloc ?_ _)); exact BK305.out⟩, ⟨hx_ HB⟩⟩
               ·rw [if_neg c73] at H
                exact absurd H (by simp)
              ·rw [if_neg c72] at H
               exact absurd H (by simp)
             ·rw [if_neg c70] at H
              have c70b0 : decide (0 < x4_3) = false := decide_eq_false c70
              clear c70
              by_cases c100 : (((rd_T75 l0_5 x4_3).f1).size : Int) > 4096
              ·rw [if_pos c100] at H
               have c100b0 : decide (4096 < (((rd_T75 l0_5 x4_3).f1).size : Int)) = true := decide_eq_true c100
               have c100b1 : decide (4096 < ((rd_T75 l0_5 x4_3).f1).size) = true := decide_eq_true (by omega)
               clear c100
               obtain rfl := Option.some.inj H
               have hnb101 := NB305_304.out
               have hnc101 := NB304_305.out
               have hcz102_0 : wr.cell? ⟨gb305, 0, none⟩ = some (.int .u64 a0_2) := (blk_cell BK305.out 0).trans rfl
               have hcz102_1 : wr.cell? ⟨gb305, 1, none⟩ = some (.int .u64 a0_3) := (blk_cell BK305.out 1).trans rfl
               have hcz102_2 : wr.cell? ⟨gb305, 2, none⟩ = some (.string a0_4) := (blk_cell BK305.out 2).trans rfl
               have hcz102_3 : wr.cell? ⟨gb305, 3, none⟩ = some (.slice A0_5 l0_5.length c0_5) := (blk_cell BK305.out 3).trans rfl
               have hfz102_0 := blk_frozen BK305.out 0
               have hfz102_1 := blk_frozen BK305.out 1
               have hfz102_2 := blk_frozen BK305.out 2
               have hfz102_3 := blk_frozen BK305.out 3
               have p307 : 0 ≤ (x4_3 : Int) := of_decide_eq_true (by first | (with_reducible assumption) | assumption)
               have q307 : x4_3 < (l0_5.length : Int) := of_decide_eq_true (by first | (with_reducible assumption) | assumption)
               obtain ⟨ad307, e307, hx307_0, hx307_1⟩ := at_T75 HR0_5.out x4_3 p307 q307
               cases e307
               replace hx307_0 := (HB.out.cell (World.block_lt_of_cell? w _ hx307_0)).trans hx307_0
               replace hx307_1 := (HB.out.cell (World.block_lt_of_cell? w _ hx307_1)).trans hx307_1
               replace p307 := eq_true p307
               replace q307 := eq_true q307
               go_wp2_with (first | ((with_reducible refine gate_dst (N := 5) rfl ?_); (try (refine gate_guard (by rfl) ?_; dsimp only)); refine box_event ?hg (N := 5) ?hd (cs := #[.int .u64 0, .string (⟨#[]⟩ : ByteArray)]) (t := 75) ?hr ?_; (case hd => rfl); (case hg => rfl); (case hr => first | (go_simp; done) | (go_simp; rfl)); intro gb308 hg w103 hbox hb; have n0_ := am_ (blk_below (g := gb304) (o := .cells #[.int .u64 a0_0, .int .u64 a0_1, .int .u64 a0_2, .int .u64 a0_3, .string a0_4, .slice (some ad307) l0_5.length c0_5] 30 (0, 0)) (bx_ BK304) hb); have n1_ := am_ (blk_below (g := gb305) (o := .cells #[.int .u64 a0_2, .int .u64 a0_3, .string a0_4, .slice (some ad307) l0_5.length c0_5] 28 (0, 0)) (bx_ BK305) hb); have n2_ := am_ (below_step (by repeat (first | (with_reducible first | exact HB.out | apply below_alloc | apply pw_below_drewN | apply below_drew1 | refine below_set ?_ GE304.out | refine below_set ?_ GE305.out) | exact HB.out | exact Below.refl _ _)) hb); have n3_ := am_ (hbox); have n4_ := am_ ((by rw [hg]; exact (below_size (hx_ HB)) : w.heap.size ≤ gb308)); have n5_ := am_ ((by rw [hg]; exact (below_size (hx_ HB)) : w.heap.size ≤ gb308)); have n6_ := am_ ((by rw [hg]; exact Nat.ne_of_lt (blk_lt (g := gb304) (o := .cells #[.int .u64 a0_0, .int .u64 a0_1, .int .u64 a0_2, .int .u64 a0_3, .string a0_4, .slice (some ad307) l0_5.length c0_5] 30 (0, 0)) (bx_ BK304)) : gb304 ≠ gb308)); have n7_ := am_ ((by rw [hg]; exact Nat.ne_of_gt (blk_lt (g := gb304) (o := .cells #[.int .u64 a0_0, .int .u64 a0_1, .int .u64 a0_2, .int .u64 a0_3, .string a0_4, .slice (some ad307) l0_5.length c0_5] 30 (0, 0)) (bx_ BK304)) : gb308 ≠ gb304)); have n8_ := am_ ((by rw [hg]; exact Nat.ne_of_lt (blk_lt (g := gb305) (o := .cells #[.int .u64 a0_2, .int .u64 a0_3, .string a0_4, .slice (some ad307) l0_5.length c0_5] 28 (0, 0)) (bx_ BK305)) : gb305 ≠ gb308)); have n9_ := am_ ((by rw [hg]; exact Nat.ne_of_gt (blk_lt (g := gb305) (o := .cells #[.int .u64 a0_2, .int .u64 a0_3, .string a0_4, .slice (some ad307) l0_5.length c0_5] 28 (0, 0)) (bx_ BK305)) : gb308 ≠ gb305)); clear BK304; clear BK305; clear HB; have BK304 := n0_; have BK305 := n1_; have HB := n2_; have BK308 := n3_; have GW308 := n4_; have GE308 := n5_; have NB304_308 := n6_; have NB308_304 := n7_; have NB305_308 := n8_; have NB308_305 := n9_; clear n0_ n1_ n2_ n3_ n4_ n5_ n6_ n7_ n8_ n9_; clear hb hbox hg; have hnb104 := NB308_304.out; have hnc104 := NB304_308.out; have hnb105 := NB308_305.out; have hnc105 := NB305_308.out; have hcz106_0 : w103.cell? ⟨gb308, 0, none⟩ = some (.int .u64 0) := (blk_cell BK308.out 0).trans rfl; have hcz106_1 : w103.cell? ⟨gb308, 1, none⟩ = some (.string (⟨#[]⟩ : ByteArray)) := (blk_cell BK308.out 1).trans rfl; have hfz106_0 := blk_frozen BK308.out 0; have hfz106_1 := blk_frozen BK308.out 1; have hcz107_0 : w103.cell? ⟨gb304, 0, none⟩ = some (.int .u64 a0_0) := (blk_cell BK304.out 0).trans rfl; have hcz107_1 : w103.cell? ⟨gb304, 1, none⟩ = some (.int .u64 a0_1) := (blk_cell BK304.out 1).trans rfl; have hcz107_2 : w103.cell? ⟨gb304, 2, none⟩ = some (.int .u64 a0_2) := (blk_cell BK304.out 2).trans rfl; have hcz107_3 : w103.cell? ⟨gb304, 3, none⟩ = some (.int .u64 a0_3) := (blk_cell BK304.out 3).trans rfl; have hcz107_4 : w103.cell? ⟨gb304, 4, none⟩ = some (.string a0_4) := (blk_cell BK304.out 4).trans rfl; have hcz107_5 : w103.cell? ⟨gb304, 5, none⟩ = some (.slice (some ad307) l0_5.length c0_5) := (blk_cell BK304.out 5).trans rfl; have hfz107_0 := blk_frozen BK304.out 0; have hfz107_1 := blk_frozen BK304.out 1; have hfz107_2 := blk_frozen BK304.out 2; have hfz107_3 := blk_frozen BK304.out 3; have hfz107_4 := blk_frozen BK304.out 4; have hfz107_5 := blk_frozen BK304.out 5; have hcz108_0 : w103.cell? ⟨gb305, 0, none⟩ = some (.int .u64 a0_2) := (blk_cell BK305.out 0).trans rfl; have hcz108_1 : w103.cell? ⟨gb305, 1, none⟩ = some (.int .u64 a0_3) := (blk_cell BK305.out 1).trans rfl; have hcz108_2 : w103.cell? ⟨gb305, 2, none⟩ = some (.string a0_4) := (blk_cell BK305.out 2).trans rfl; have hcz108_3 : w103.cell? ⟨gb305, 3, none⟩ = some (.slice (some ad307) l0_5.length c0_5) := (blk_cell BK305.out 3).trans rfl; have hfz108_0 := blk_frozen BK305.out 0; have hfz108_1 := blk_frozen BK305.out 1; have hfz108_2 := blk_frozen BK305.out 2; have hfz108_3 := blk_frozen BK305.out 3))
               repeat (go_quiet (first | ((with_reducible refine gate_dst (N := 5) rfl ?_); (try (refine gate_guard (by rfl) ?_; dsimp only)); refine box_event ?hg (N := 5) ?hd (cs := #[.int .u64 0, .string (⟨#[]⟩ : ByteArray)]) (t := 75) ?hr ?_; (case hd => rfl); (case hg => rfl); (case hr => first | (go_simp; done) | (go_simp; rfl)); intro gb308 hg w103 hbox hb; have n0_ := am_ (blk_below (g := gb304) (o := .cells #[.int .u64 a0_0, .int .u64 a0_1, .int .u64 a0_2, .int .u64 a0_3, .string a0_4, .slice (some ad307) l0_5.length c0_5] 30 (0, 0)) (bx_ BK304) hb); have n1_ := am_ (blk_below (g := gb305) (o := .cells #[.int .u64 a0_2, .int .u64 a0_3, .string a0_4, .slice (some ad307) l0_5.length c0_5] 28 (0, 0)) (bx_ BK305) hb); have n2_ := am_ (below_step (by repeat (first | (with_reducible first | exact HB.out | apply below_alloc | apply pw_below_drewN | apply below_drew1 | refine below_set ?_ GE304.out | refine below_set ?_ GE305.out) | exact HB.out | exact Below.refl _ _)) hb); have n3_ := am_ (hbox); have n4_ := am_ ((by rw [hg]; exact (below_size (hx_ HB)) : w.heap.size ≤ gb308)); have n5_ := am_ ((by rw [hg]; exact (below_size (hx_ HB)) : w.heap.size ≤ gb308)); have n6_ := am_ ((by rw [hg]; exact Nat.ne_of_lt (blk_lt (g := gb304) (o := .cells #[.int .u64 a0_0, .int .u64 a0_1, .int .u64 a0_2, .int .u64 a0_3, .string a0_4, .slice (some ad307) l0_5.length c0_5] 30 (0, 0)) (bx_ BK304)) : gb304 ≠ gb308)); have n7_ := am_ ((by rw [hg]; exact Nat.ne_of_gt (blk_lt (g := gb304) (o := .cells #[.int .u64 a0_0, .int .u64 a0_1, .int .u64 a0_2, .int .u64 a0_3, .string a0_4, .slice (some ad307) l0_5.length c0_5] 30 (0, 0)) (bx_ BK304)) : gb308 ≠ gb304)); have n8_ := am_ ((by rw [hg]; exact Nat.ne_of_lt (blk_lt (g := gb305) (o := .cells #[.int .u64 a0_2, .int .u64 a0_3, .string a0_4, .slice (some ad307) l0_5.length c0_5] 28 (0, 0)) (bx_ BK305)) : gb305 ≠ gb308)); have n9_ := am_ ((by rw [hg]; exact Nat.ne_of_gt (blk_lt (g := gb305) (o := .cells #[.int .u64 a0_2, .int .u64 a0_3, .string a0_4, .slice (some ad307) l0_5.length c0_5] 28 (0, 0)) (bx_ BK305)) : gb308 ≠ gb305)); clear BK304; clear BK305; clear HB; have BK304 := n0_; have BK305 := n1_; have HB := n2_; have BK308 := n3_; have GW308 := n4_; have GE308 := n5_; have NB304_308 := n6_; have NB308_304 := n7_; have NB305_308 := n8_; have NB308_305 := n9_; clear n0_ n1_ n2_ n3_ n4_ n5_ n6_ n7_ n8_ n9_; clear hb hbox hg; have hnb104 := NB308_304.out; have hnc104 := NB304_308.out; have hnb105 := NB308_305.out; have hnc105 := NB305_308.out; have hcz106_0 : w103.cell? ⟨gb308, 0, none⟩ = some (.int .u64 0) := (blk_cell BK308.out 0).trans rfl; have hcz106_1 : w103.cell? ⟨gb308, 1, none⟩ = some (.string (⟨#[]⟩ : ByteArray)) := (blk_cell BK308.out 1).trans rfl; have hfz106_0 := blk_frozen BK308.out 0; have hfz106_1 := blk_frozen BK308.out 1; have hcz107_0 : w103.cell? ⟨gb304, 0, none⟩ = some (.int .u64 a0_0) := (blk_cell BK304.out 0).trans rfl; have hcz107_1 : w103.cell? ⟨gb304, 1, none⟩ = some (.int .u64 a0_1) := (blk_cell BK304.out 1).trans rfl; have hcz107_2 : w103.cell? ⟨gb304, 2, none⟩ = some (.int .u64 a0_2) := (blk_cell BK304.out 2).trans rfl; have hcz107_3 : w103.cell? ⟨gb304, 3, none⟩ = some (.int .u64 a0_3) := (blk_cell BK304.out 3).trans rfl; have hcz107_4 : w103.cell? ⟨gb304, 4, none⟩ = some (.string a0_4) := (blk_cell BK304.out 4).trans rfl; have hcz107_5 : w103.cell? ⟨gb304, 5, none⟩ = some (.slice (some ad307) l0_5.length c0_5) := (blk_cell BK304.out 5).trans rfl; have hfz107_0 := blk_frozen BK304.out 0; have hfz107_1 := blk_frozen BK304.out 1; have hfz107_2 := blk_frozen BK304.out 2; have hfz107_3 := blk_frozen BK304.out 3; have hfz107_4 := blk_frozen BK304.out 4; have hfz107_5 := blk_frozen BK304.out 5; have hcz108_0 : w103.cell? ⟨gb305, 0, none⟩ = some (.int .u64 a0_2) := (blk_cell BK305.out 0).trans rfl; have hcz108_1 : w103.cell? ⟨gb305, 1, none⟩ = some (.int .u64 a0_3) := (blk_cell BK305.out 1).trans rfl; have hcz108_2 : w103.cell? ⟨gb305, 2, none⟩ = some (.string a0_4) := (blk_cell BK305.out 2).trans rfl; have hcz108_3 : w103.cell? ⟨gb305, 3, none⟩ = some (.slice (some ad307) l0_5.length c0_5) := (blk_cell BK305.out 3).trans rfl; have hfz108_0 := blk_frozen BK305.out 0; have hfz108_1 := blk_frozen BK305.out 1; have hfz108_2 := blk_frozen BK305.out 2; have hfz108_3 := blk_frozen BK305.out 3)); try go_wp2_with (first | ((with_reducible refine gate_dst (N := 5) rfl ?_); (try (refine gate_guard (by rfl) ?_; dsimp only)); refine box_event ?hg (N := 5) ?hd (cs := #[.int .u64 0, .string (⟨#[]⟩ : ByteArray)]) (t := 75) ?hr ?_; (case hd => rfl); (case hg => rfl); (case hr => first | (go_simp; done) | (go_simp; rfl)); intro gb308 hg w103 hbox hb; have n0_ := am_ (blk_below (g := gb304) (o := .cells #[.int .u64 a0_0, .int .u64 a0_1, .int .u64 a0_2, .int .u64 a0_3, .string a0_4, .slice (some ad307) l0_5.length c0_5] 30 (0, 0)) (bx_ BK304) hb); have n1_ := am_ (blk_below (g := gb305) (o := .cells #[.int .u64 a0_2, .int .u64 a0_3, .string a0_4, .slice (some ad307) l0_5.length c0_5] 28 (0, 0)) (bx_ BK305) hb); have n2_ := am_ (below_step (by repeat (first | (with_reducible first | exact HB.out | apply below_alloc | apply pw_below_drewN | apply below_drew1 | refine below_set ?_ GE304.out | refine below_set ?_ GE305.out) | exact HB.out | exact Below.refl _ _)) hb); have n3_ := am_ (hbox); have n4_ := am_ ((by rw [hg]; exact (below_size (hx_ HB)) : w.heap.size ≤ gb308)); have n5_ := am_ ((by rw [hg]; exact (below_size (hx_ HB)) : w.heap.size ≤ gb308)); have n6_ := am_ ((by rw [hg]; exact Nat.ne_of_lt (blk_lt (g := gb304) (o := .cells #[.int .u64 a0_0, .int .u64 a0_1, .int .u64 a0_2, .int .u64 a0_3, .string a0_4, .slice (some ad307) l0_5.length c0_5] 30 (0, 0)) (bx_ BK304)) : gb304 ≠ gb308)); have n7_ := am_ ((by rw [hg]; exact Nat.ne_of_gt (blk_lt (g := gb304) (o := .cells #[.int .u64 a0_0, .int .u64 a0_1, .int .u64 a0_2, .int .u64 a0_3, .string a0_4, .slice (some ad307) l0_5.length c0_5] 30 (0, 0)) (bx_ BK304)) : gb308 ≠ gb304)); have n8_ := am_ ((by rw [hg]; exact Nat.ne_of_lt (blk_lt (g := gb305) (o := .cells #[.int .u64 a0_2, .int .u64 a0_3, .string a0_4, .slice (some ad307) l0_5.length c0_5] 28 (0, 0)) (bx_ BK305)) : gb305 ≠ gb308)); have n9_ := am_ ((by rw [hg]; exact Nat.ne_of_gt (blk_lt (g := gb305) (o := .cells #[.int .u64 a0_2, .int .u64 a0_3, .string a0_4, .slice (some ad307) l0_5.length c0_5] 28 (0, 0)) (bx_ BK305)) : gb308 ≠ gb305)); clear BK304; clear BK305; clear HB; have BK304 := n0_; have BK305 := n1_; have HB := n2_; have BK308 := n3_; have GW308 := n4_; have GE308 := n5_; have NB304_308 := n6_; have NB308_304 := n7_; have NB305_308 := n8_; have NB308_305 := n9_; clear n0_ n1_ n2_ n3_ n4_ n5_ n6_ n7_ n8_ n9_; clear hb hbox hg; have hnb104 := NB308_304.out; have hnc104 := NB304_308.out; have hnb105 := NB308_305.out; have hnc105 := NB305_308.out; have hcz106_0 : w103.cell? ⟨gb308, 0, none⟩ = some (.int .u64 0) := (blk_cell BK308.out 0).trans rfl; have hcz106_1 : w103.cell? ⟨gb308, 1, none⟩ = some (.string (⟨#[]⟩ : ByteArray)) := (blk_cell BK308.out 1).trans rfl; have hfz106_0 := blk_frozen BK308.out 0; have hfz106_1 := blk_frozen BK308.out 1; have hcz107_0 : w103.cell? ⟨gb304, 0, none⟩ = some (.int .u64 a0_0) := (blk_cell BK304.out 0).trans rfl; have hcz107_1 : w103.cell? ⟨gb304, 1, none⟩ = some (.int .u64 a0_1) := (blk_cell BK304.out 1).trans rfl; have hcz107_2 : w103.cell? ⟨gb304, 2, none⟩ = some (.int .u64 a0_2) := (blk_cell BK304.out 2).trans rfl; have hcz107_3 : w103.cell? ⟨gb304, 3, none⟩ = some (.int .u64 a0_3) := (blk_cell BK304.out 3).trans rfl; have hcz107_4 : w103.cell? ⟨gb304, 4, none⟩ = some (.string a0_4) := (blk_cell BK304.out 4).trans rfl; have hcz107_5 : w103.cell? ⟨gb304, 5, none⟩ = some (.slice (some ad307) l0_5.length c0_5) := (blk_cell BK304.out 5).trans rfl; have hfz107_0 := blk_frozen BK304.out 0; have hfz107_1 := blk_frozen BK304.out 1; have hfz107_2 := blk_frozen BK304.out 2; have hfz107_3 := blk_frozen BK304.out 3; have hfz107_4 := blk_frozen BK304.out 4; have hfz107_5 := blk_frozen BK304.out 5; have hcz108_0 : w103.cell? ⟨gb305, 0, none⟩ = some (.int .u64 a0_2) := (blk_cell BK305.out 0).trans rfl; have hcz108_1 : w103.cell? ⟨gb305, 1, none⟩ = some (.int .u64 a0_3) := (blk_cell BK305.out 1).trans rfl; have hcz108_2 : w103.cell? ⟨gb305, 2, none⟩ = some (.string a0_4) := (blk_cell BK305.out 2).trans rfl; have hcz108_3 : w103.cell? ⟨gb305, 3, none⟩ = some (.slice (some ad307) l0_5.length c0_5) := (blk_cell BK305.out 3).trans rfl; have hfz108_0 := blk_frozen BK305.out 0; have hfz108_1 := blk_frozen BK305.out 1; have hfz108_2 := blk_frozen BK305.out 2; have hfz108_3 := blk_frozen BK305.out 3)))
               go_ret
               exact ⟨by first | rfl | (simp [errW_none, errW_some] <;> rfl) | (simp [*, errW_none, errW_some] <;> rfl), hx_ HB⟩
              ·rw [if_neg c100] at H
               have c100b0 : decide (4096 < (((rd_T75 l0_5 x4_3).f1).size : Int)) = false := decide_eq_false c100
               have c100b1 : decide (4096 < ((rd_T75 l0_5 x4_3).f1).size) = false := decide_eq_false (by omega)
               clear c100
               have H' := am_ H
               clear H
               have hnb109 := NB305_304.out
               have hnc109 := NB304_305.out
               have hcz110_0 : wr.cell? ⟨gb305, 0, none⟩ = some (.int .u64 a0_2) := (blk_cell BK305.out 0).trans rfl
               have hcz110_1 : wr.cell? ⟨gb305, 1, none⟩ = some (.int .u64 a0_3) := (blk_cell BK305.out 1).trans rfl
               have hcz110_2 : wr.cell? ⟨gb305, 2, none⟩ = some (.string a0_4) := (blk_cell BK305.out 2).trans rfl
               have hcz110_3 : wr.cell? ⟨gb305, 3, none⟩ = some (.slice A0_5 l0_5.length c0_5) := (blk_cell BK305.out 3).trans rfl
               have hfz110_0 := blk_frozen BK305.out 0
               have hfz110_1 := blk_frozen BK305.out 1
               have hfz110_2 := blk_frozen BK305.out 2
               have hfz110_3 := blk_frozen BK305.out 3
               have p307 : 0 ≤ (x4_3 : Int) := of_decide_eq_true (by first | (with_reducible assumption) | assumption)
               have q307 : x4_3 < (l0_5.length : Int) := of_decide_eq_true (by first | (with_reducible assumption) | assumption)
               obtain ⟨ad307, e307, hx307_0, hx307_1⟩ := at_T75 HR0_5.out x4_3 p307 q307
               cases e307
               replace hx307_0 := (HB.out.cell (World.block_lt_of_cell? w _ hx307_0)).trans hx307_0
               replace hx307_1 := (HB.out.cell (World.block_lt_of_cell? w _ hx307_1)).trans hx307_1
               replace p307 := eq_true p307
               replace q307 := eq_true q307
               go_wp2_with (first | ((with_reducible refine gate_dst (N := 5) rfl ?_); (try (refine gate_guard (by rfl) ?_; dsimp only)); refine box_event ?hg (N := 5) ?hd (cs := #[.int .u64 0, .string (⟨#[]⟩ : ByteArray)]) (t := 75) ?hr ?_; (case hd => rfl); (case hg => rfl); (case hr => first | (go_simp; done) | (go_simp; rfl)); intro gb308 hg w111 hbox hb; have n0_ := am_ (blk_below (g := gb304) (o := .cells #[.int .u64 a0_0, .int .u64 a0_1, .int .u64 a0_2, .int .u64 a0_3, .string a0_4, .slice (some ad307) l0_5.length c0_5] 30 (0, 0)) (bx_ BK304) hb); have n1_ := am_ (blk_below (g := gb305) (o := .cells #[.int .u64 a0_2, .int .u64 a0_3, .string a0_4, .slice (some ad307) l0_5.length c0_5] 28 (0, 0)) (bx_ BK305) hb); have n2_ := am_ (below_step (by repeat (first | (with_reducible first | exact HB.out | apply below_alloc | apply pw_below_drewN | apply below_drew1 | refine below_set ?_ GE304.out | refine below_set ?_ GE305.out) | exact HB.out | exact Below.refl _ _)) hb); have n3_ := am_ (hbox); have n4_ := am_ ((by rw [hg]; exact (below_size (hx_ HB)) : w.heap.size ≤ gb308)); have n5_ := am_ ((by rw [hg]; exact (below_size (hx_ HB)) : w.heap.size ≤ gb308)); have n6_ := am_ ((by rw [hg]; exact Nat.ne_of_lt (blk_lt (g := gb304) (o := .cells #[.int .u64 a0_0, .int .u64 a0_1, .int .u64 a0_2, .int .u64 a0_3, .string a0_4, .slice (some ad307) l0_5.length c0_5] 30 (0, 0)) (bx_ BK304)) : gb304 ≠ gb308)); have n7_ := am_ ((by rw [hg]; exact Nat.ne_of_gt (blk_lt (g := gb304) (o := .cells #[.int .u64 a0_0, .int .u64 a0_1, .int .u64 a0_2, .int .u64 a0_3, .string a0_4, .slice (some ad307) l0_5.length c0_5] 30 (0, 0)) (bx_ BK304)) : gb308 ≠ gb304)); have n8_ := am_ ((by rw [hg]; exact Nat.ne_of_lt (blk_lt (g := gb305) (o := .cells #[.int .u64 a0_2, .int .u64 a0_3, .string a0_4, .slice (some ad307) l0_5.length c0_5] 28 (0, 0)) (bx_ BK305)) : gb305 ≠ gb308)); have n9_ := am_ ((by rw [hg]; exact Nat.ne_of_gt (blk_lt (g := gb305) (o := .cells #[.int .u64 a0_2, .int .u64 a0_3, .string a0_4, .slice (some ad307) l0_5.length c0_5] 28 (0, 0)) (bx_ BK305)) : gb308 ≠ gb305)); clear BK304; clear BK305; clear HB; have BK304 := n0_; have BK305 := n1_; have HB := n2_; have BK308 := n3_; have GW308 := n4_; have GE308 := n5_; have NB304_308 := n6_; have NB308_304 := n7_; have NB305_308 := n8_; have NB308_305 := n9_; clear n0_ n1_ n2_ n3_ n4_ n5_ n6_ n7_ n8_ n9_; clear hb hbox hg; have hnb112 := NB308_304.out; have hnc112 := NB304_308.out; have hnb113 := NB308_305.out; have hnc113 := NB305_308.out; have hcz114_0 : w111.cell? ⟨gb308, 0, none⟩ = some (.int .u64 0) := (blk_cell BK308.out 0).trans rfl; have hcz114_1 : w111.cell? ⟨gb308, 1, none⟩ = some (.string (⟨#[]⟩ : ByteArray)) := (blk_cell BK308.out 1).trans rfl; have hfz114_0 := blk_frozen BK308.out 0; have hfz114_1 := blk_frozen BK308.out 1; have hcz115_0 : w111.cell? ⟨gb304, 0, none⟩ = some (.int .u64 a0_0) := (blk_cell BK304.out 0).trans rfl; have hcz115_1 : w111.cell? ⟨gb304, 1, none⟩ = some (.int .u64 a0_1) := (blk_cell BK304.out 1).trans rfl; have hcz115_2 : w111.cell? ⟨gb304, 2, none⟩ = some (.int .u64 a0_2) := (blk_cell BK304.out 2).trans rfl; have hcz115_3 : w111.cell? ⟨gb304, 3, none⟩ = some (.int .u64 a0_3) := (blk_cell BK304.out 3).trans rfl; have hcz115_4 : w111.cell? ⟨gb304, 4, none⟩ = some (.string a0_4) := (blk_cell BK304.out 4).trans rfl; have hcz115_5 : w111.cell? ⟨gb304, 5, none⟩ = some (.slice (some ad307) l0_5.length c0_5) := (blk_cell BK304.out 5).trans rfl; have hfz115_0 := blk_frozen BK304.out 0; have hfz115_1 := blk_frozen BK304.out 1; have hfz115_2 := blk_frozen BK304.out 2; have hfz115_3 := blk_frozen BK304.out 3; have hfz115_4 := blk_frozen BK304.out 4; have hfz115_5 := blk_frozen BK304.out 5; have hcz116_0 : w111.cell? ⟨gb305, 0, none⟩ = some (.int .u64 a0_2) := (blk_cell BK305.out 0).trans rfl; have hcz116_1 : w111.cell? ⟨gb305, 1, none⟩ = some (.int .u64 a0_3) := (blk_cell BK305.out 1).trans rfl; have hcz116_2 : w111.cell? ⟨gb305, 2, none⟩ = some (.string a0_4) := (blk_cell BK305.out 2).trans rfl; have hcz116_3 : w111.cell? ⟨gb305, 3, none⟩ = some (.slice (some ad307) l0_5.length c0_5) := (blk_cell BK305.out 3).trans rfl; have hfz116_0 := blk_frozen BK305.out 0; have hfz116_1 := blk_frozen BK305.out 1; have hfz116_2 := blk_frozen BK305.out 2; have hfz116_3 := blk_frozen BK305.out 3))
               repeat (go_quiet (first | ((with_reducible refine gate_dst (N := 5) rfl ?_); (try (refine gate_guard (by rfl) ?_; dsimp only)); refine box_event ?hg (N := 5) ?hd (cs := #[.int .u64 0, .string (⟨#[]⟩ : ByteArray)]) (t := 75) ?hr ?_; (case hd => rfl); (case hg => rfl); (case hr => first | (go_simp; done) | (go_simp; rfl)); intro gb308 hg w111 hbox hb; have n0_ := am_ (blk_below (g := gb304) (o := .cells #[.int .u64 a0_0, .int .u64 a0_1, .int .u64 a0_2, .int .u64 a0_3, .string a0_4, .slice (some ad307) l0_5.length c0_5] 30 (0, 0)) (bx_ BK304) hb); have n1_ := am_ (blk_below (g := gb305) (o := .cells #[.int .u64 a0_2, .int .u64 a0_3, .string a0_4, .slice (some ad307) l0_5.length c0_5] 28 (0, 0)) (bx_ BK305) hb); have n2_ := am_ (below_step (by repeat (first | (with_reducible first | exact HB.out | apply below_alloc | apply pw_below_drewN | apply below_drew1 | refine below_set ?_ GE304.out | refine below_set ?_ GE305.out) | exact HB.out | exact Below.refl _ _)) hb); have n3_ := am_ (hbox); have n4_ := am_ ((by rw [hg]; exact (below_size (hx_ HB)) : w.heap.size ≤ gb308)); have n5_ := am_ ((by rw [hg]; exact (below_size (hx_ HB)) : w.heap.size ≤ gb308)); have n6_ := am_ ((by rw [hg]; exact Nat.ne_of_lt (blk_lt (g := gb304) (o := .cells #[.int .u64 a0_0, .int .u64 a0_1, .int .u64 a0_2, .int .u64 a0_3, .string a0_4, .slice (some ad307) l0_5.length c0_5] 30 (0, 0)) (bx_ BK304)) : gb304 ≠ gb308)); have n7_ := am_ ((by rw [hg]; exact Nat.ne_of_gt (blk_lt (g := gb304) (o := .cells #[.int .u64 a0_0, .int .u64 a0_1, .int .u64 a0_2, .int .u64 a0_3, .string a0_4, .slice (some ad307) l0_5.length c0_5] 30 (0, 0)) (bx_ BK304)) : gb308 ≠ gb304)); have n8_ := am_ ((by rw [hg]; exact Nat.ne_of_lt (blk_lt (g := gb305) (o := .cells #[.int .u64 a0_2, .int .u64 a0_3, .string a0_4, .slice (some ad307) l0_5.length c0_5] 28 (0, 0)) (bx_ BK305)) : gb305 ≠ gb308)); have n9_ := am_ ((by rw [hg]; exact Nat.ne_of_gt (blk_lt (g := gb305) (o := .cells #[.int .u64 a0_2, .int .u64 a0_3, .string a0_4, .slice (some ad307) l0_5.length c0_5] 28 (0, 0)) (bx_ BK305)) : gb308 ≠ gb305)); clear BK304; clear BK305; clear HB; have BK304 := n0_; have BK305 := n1_; have HB := n2_; have BK308 := n3_; have GW308 := n4_; have GE308 := n5_; have NB304_308 := n6_; have NB308_304 := n7_; have NB305_308 := n8_; have NB308_305 := n9_; clear n0_ n1_ n2_ n3_ n4_ n5_ n6_ n7_ n8_ n9_; clear hb hbox hg; have hnb112 := NB308_304.out; have hnc112 := NB304_308.out; have hnb113 := NB308_305.out; have hnc113 := NB305_308.out; have hcz114_0 : w111.cell? ⟨gb308, 0, none⟩ = some (.int .u64 0) := (blk_cell BK308.out 0).trans rfl; have hcz114_1 : w111.cell? ⟨gb308, 1, none⟩ = some (.string (⟨#[]⟩ : ByteArray)) := (blk_cell BK308.out 1).trans rfl; have hfz114_0 := blk_frozen BK308.out 0; have hfz114_1 := blk_frozen BK308.out 1; have hcz115_0 : w111.cell? ⟨gb304, 0, none⟩ = some (.int .u64 a0_0) := (blk_cell BK304.out 0).trans rfl; have hcz115_1 : w111.cell? ⟨gb304, 1, none⟩ = some (.int .u64 a0_1) := (blk_cell BK304.out 1).trans rfl; have hcz115_2 : w111.cell? ⟨gb304, 2, none⟩ = some (.int .u64 a0_2) := (blk_cell BK304.out 2).trans rfl; have hcz115_3 : w111.cell? ⟨gb304, 3, none⟩ = some (.int .u64 a0_3) := (blk_cell BK304.out 3).trans rfl; have hcz115_4 : w111.cell? ⟨gb304, 4, none⟩ = some (.string a0_4) := (blk_cell BK304.out 4).trans rfl; have hcz115_5 : w111.cell? ⟨gb304, 5, none⟩ = some (.slice (some ad307) l0_5.length c0_5) := (blk_cell BK304.out 5).trans rfl; have hfz115_0 := blk_frozen BK304.out 0; have hfz115_1 := blk_frozen BK304.out 1; have hfz115_2 := blk_frozen BK304.out 2; have hfz115_3 := blk_frozen BK304.out 3; have hfz115_4 := blk_frozen BK304.out 4; have hfz115_5 := blk_frozen BK304.out 5; have hcz116_0 : w111.cell? ⟨gb305, 0, none⟩ = some (.int .u64 a0_2) := (blk_cell BK305.out 0).trans rfl; have hcz116_1 : w111.cell? ⟨gb305, 1, none⟩ = some (.int .u64 a0_3) := (blk_cell BK305.out 1).trans rfl; have hcz116_2 : w111.cell? ⟨gb305, 2, none⟩ = some (.string a0_4) := (blk_cell BK305.out 2).trans rfl; have hcz116_3 : w111.cell? ⟨gb305, 3, none⟩ = some (.slice (some ad307) l0_5.length c0_5) := (blk_cell BK305.out 3).trans rfl; have hfz116_0 := blk_frozen BK305.out 0; have hfz116_1 := blk_frozen BK305.out 1; have hfz116_2 := blk_frozen BK305.out 2; have hfz116_3 := blk_frozen BK305.out 3)); try go_wp2_with (first | ((with_reducible refine gate_dst (N := 5) rfl ?_); (try (refine gate_guard (by rfl) ?_; dsimp only)); refine box_event ?hg (N := 5) ?hd (cs := #[.int .u64 0, .string (⟨#[]⟩ : ByteArray)]) (t := 75) ?hr ?_; (case hd => rfl); (case hg => rfl); (case hr => first | (go_simp; done) | (go_simp; rfl)); intro gb308 hg w111 hbox hb; have n0_ := am_ (blk_below (g := gb304) (o := .cells #[.int .u64 a0_0, .int .u64 a0_1, .int .u64 a0_2, .int .u64 a0_3, .string a0_4, .slice (some ad307) l0_5.length c0_5] 30 (0, 0)) (bx_ BK304) hb); have n1_ := am_ (blk_below (g := gb305) (o := .cells #[.int .u64 a0_2, .int .u64 a0_3, .string a0_4, .slice (some ad307) l0_5.length c0_5] 28 (0, 0)) (bx_ BK305) hb); have n2_ := am_ (below_step (by repeat (first | (with_reducible first | exact HB.out | apply below_alloc | apply pw_below_drewN | apply below_drew1 | refine below_set ?_ GE304.out | refine below_set ?_ GE305.out) | exact HB.out | exact Below.refl _ _)) hb); have n3_ := am_ (hbox); have n4_ := am_ ((by rw [hg]; exact (below_size (hx_ HB)) : w.heap.size ≤ gb308)); have n5_ := am_ ((by rw [hg]; exact (below_size (hx_ HB)) : w.heap.size ≤ gb308)); have n6_ := am_ ((by rw [hg]; exact Nat.ne_of_lt (blk_lt (g := gb304) (o := .cells #[.int .u64 a0_0, .int .u64 a0_1, .int .u64 a0_2, .int .u64 a0_3, .string a0_4, .slice (some ad307) l0_5.length c0_5] 30 (0, 0)) (bx_ BK304)) : gb304 ≠ gb308)); have n7_ := am_ ((by rw [hg]; exact Nat.ne_of_gt (blk_lt (g := gb304) (o := .cells #[.int .u64 a0_0, .int .u64 a0_1, .int .u64 a0_2, .int .u64 a0_3, .string a0_4, .slice (some ad307) l0_5.length c0_5] 30 (0, 0)) (bx_ BK304)) : gb308 ≠ gb304)); have n8_ := am_ ((by rw [hg]; exact Nat.ne_of_lt (blk_lt (g := gb305) (o := .cells #[.int .u64 a0_2, .int .u64 a0_3, .string a0_4, .slice (some ad307) l0_5.length c0_5] 28 (0, 0)) (bx_ BK305)) : gb305 ≠ gb308)); have n9_ := am_ ((by rw [hg]; exact Nat.ne_of_gt (blk_lt (g := gb305) (o := .cells #[.int .u64 a0_2, .int .u64 a0_3, .string a0_4, .slice (some ad307) l0_5.length c0_5] 28 (0, 0)) (bx_ BK305)) : gb308 ≠ gb305)); clear BK304; clear BK305; clear HB; have BK304 := n0_; have BK305 := n1_; have HB := n2_; have BK308 := n3_; have GW308 := n4_; have GE308 := n5_; have NB304_308 := n6_; have NB308_304 := n7_; have NB305_308 := n8_; have NB308_305 := n9_; clear n0_ n1_ n2_ n3_ n4_ n5_ n6_ n7_ n8_ n9_; clear hb hbox hg; have hnb112 := NB308_304.out; have hnc112 := NB304_308.out; have hnb113 := NB308_305.out; have hnc113 := NB305_308.out; have hcz114_0 : w111.cell? ⟨gb308, 0, none⟩ = some (.int .u64 0) := (blk_cell BK308.out 0).trans rfl; have hcz114_1 : w111.cell? ⟨gb308, 1, none⟩ = some (.string (⟨#[]⟩ : ByteArray)) := (blk_cell BK308.out 1).trans rfl; have hfz114_0 := blk_frozen BK308.out 0; have hfz114_1 := blk_frozen BK308.out 1; have hcz115_0 : w111.cell? ⟨gb304, 0, none⟩ = some (.int .u64 a0_0) := (blk_cell BK304.out 0).trans rfl; have hcz115_1 : w111.cell? ⟨gb304, 1, none⟩ = some (.int .u64 a0_1) := (blk_cell BK304.out 1).trans rfl; have hcz115_2 : w111.cell? ⟨gb304, 2, none⟩ = some (.int .u64 a0_2) := (blk_cell BK304.out 2).trans rfl; have hcz115_3 : w111.cell? ⟨gb304, 3, none⟩ = some (.int .u64 a0_3) := (blk_cell BK304.out 3).trans rfl; have hcz115_4 : w111.cell? ⟨gb304, 4, none⟩ = some (.string a0_4) := (blk_cell BK304.out 4).trans rfl; have hcz115_5 : w111.cell? ⟨gb304, 5, none⟩ = some (.slice (some ad307) l0_5.length c0_5) := (blk_cell BK304.out 5).trans rfl; have hfz115_0 := blk_frozen BK304.out 0; have hfz115_1 := blk_frozen BK304.out 1; have hfz115_2 := blk_frozen BK304.out 2; have hfz115_3 := blk_frozen BK304.out 3; have hfz115_4 := blk_frozen BK304.out 4; have hfz115_5 := blk_frozen BK304.out 5; have hcz116_0 : w111.cell? ⟨gb305, 0, none⟩ = some (.int .u64 a0_2) := (blk_cell BK305.out 0).trans rfl; have hcz116_1 : w111.cell? ⟨gb305, 1, none⟩ = some (.int .u64 a0_3) := (blk_cell BK305.out 1).trans rfl; have hcz116_2 : w111.cell? ⟨gb305, 2, none⟩ = some (.string a0_4) := (blk_cell BK305.out 2).trans rfl; have hcz116_3 : w111.cell? ⟨gb305, 3, none⟩ = some (.slice (some ad307) l0_5.length c0_5) := (blk_cell BK305.out 3).trans rfl; have hfz116_0 := blk_frozen BK305.out 0; have hfz116_1 := blk_frozen BK305.out 1; have hfz116_2 := blk_frozen BK305.out 2; have hfz116_3 := blk_frozen BK305.out 3)))
               go_roundg k3
               case measure => have := HJ1.out; have := HJ40.out; have := HK3.out; omega
               case rel => exact ⟨(wrap64 (x4_3 + 1)), (by first | rfl | (simp; done) | (simp [*]; done)), H', ⟨by have := HJ1.out; have := HJ40.out; have := HK3.out; omega⟩, ⟨by (with_reducible repeat (first | refine blk_drewN ?_ _ | refine blk_drew ?_ | refine blk_alloc ?_ _)); refine blk_far ?_ NB304_308.out _; (with_reducible repeat (first | refine blk_drewN ?_ _ | refine blk_drew ?_ | refine blk_alloc ?_ _)); refine blk_far ?_ NB304_308.out _; (with_reducible repeat (first | refine blk_drewN ?_ _ | refine blk_drew ?_ | refine blk_alloc ?_ _)); exact BK304.out⟩, ⟨by (with_reducible repeat (first | refine blk_drewN ?_ _ | refine blk_drew ?_ | refine blk_alloc ?_ _)); refine blk_far ?_ NB305_308.out _; (with_reducible repeat (first | refine blk_drewN ?_ _ | refine blk_drew ?_ | refine blk_alloc ?_ _)); refine blk_far ?_ NB305_308.out _; (with_reducible repeat (first | refine blk_drewN ?_ _ | refine blk_drew ?_ | refine blk_alloc ?_ _)); exact BK305.out⟩, ⟨hx_ HB⟩⟩
          ·rw [if_neg c52] at H
           exact absurd H (by simp)
         ·rw [if_neg c51] at H
          have c51b0 : decide (x4_3 < (l0_5.length : Int)) = false := decide_eq_false c51
          clear c51
          obtain rfl := Option.some.inj H
          have hnb117 := NB305_304.out
          have hnc117 := NB304_305.out
          have hcz118_0 : wr.cell? ⟨gb305, 0, none⟩ = some (.int .u64 a0_2) := (blk_cell BK305.out 0).trans rfl
          have hcz118_1 : wr.cell? ⟨gb305, 1, none⟩ = some (.int .u64 a0_3) := (blk_cell BK305.out 1).trans rfl
          have hcz118_2 : wr.cell? ⟨gb305, 2, none⟩ = some (.string a0_4) := (blk_cell BK305.out 2).trans rfl
          have hcz118_3 : wr.cell? ⟨gb305, 3, none⟩ = some (.slice A0_5 l0_5.length c0_5) := (blk_cell BK305.out 3).trans rfl
          have hfz118_0 := blk_frozen BK305.out 0
          have hfz118_1 := blk_frozen BK305.out 1
          have hfz118_2 := blk_frozen BK305.out 2
          have hfz118_3 := blk_frozen BK305.out 3
          go_wp2
          repeat (go_quiet (fail); try go_wp2)
          go_ret
          exact ⟨by first | rfl | (simp [errW_none, errW_some] <;> rfl) | (simp [*, errW_none, errW_some] <;> rfl), hx_ HB⟩
end Go.Proofs.Ytfjhlcbpogihmaa.Pr
