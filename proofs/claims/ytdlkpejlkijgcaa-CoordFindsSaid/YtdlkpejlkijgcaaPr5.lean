/- What the program's functions compute, and that they compute it: printed out of the translation by a program of this session's (px.py, over the kit's printer). Conditions: none. -/
import Derived.Test.YtdlkpejlkijgcaaPr0
import Derived.Test.YtdlkpejlkijgcaaPr2
import Derived.Test.YtdlkpejlkijgcaaHandClone
namespace Go.Proofs.Ytdlkpejlkijgcaa.Pr
open Go.RowKit Go.Proofs.YtdlkpejlkijgcaaW.PrintWords Go.Proofs.YtdlkpejlkijgcaaW.PrintLast Go.Proofs.YtdlkpejlkijgcaaW.PrintMore
attribute [local go_sem] max2_int min2_int max_two min_two max_three min_three max_four min_four   -- for this text's walks alone
set_option linter.unusedVariables false
set_option linter.unusedSimpArgs false

/-! ### coord_with: function 30 -/
def coord_with.f (l0_0 : List (S42)) (a1_0 : Int) (a1_1 : Int) (l1_2 : List Int) (a1_3 : Int) : Option ((List (S42)) × Int × ByteArray × Int × Bool × Bool) := if (l0_0.length : Int) ≥ 64 then ((coord_no.f l0_0 5).bind fun bt112 => (some (bt112.1, bt112.2.1, bt112.2.2.1, bt112.2.2.2.1, bt112.2.2.2.2.1, bt112.2.2.2.2.2))) else ((cloneD.f l0_0).bind fun t120 => ((some (([(⟨(⟨a1_0, a1_1⟩ : S34), l1_2, a1_3⟩ : S42)] : List (S42)) : List (S42))).bind fun y123 => (if t120.length + y123.length < 2932031007402 then (some ((t120 ++ y123), 0, (⟨#[]⟩ : ByteArray), 0, false, false)) else (none))))
def coord_with.T3 : Bool × List (List Nat × List Nat) := (true, [([], []), ([0], [0]), ([1], [1]), ([], []), ([3], [3]), ([2, 4, 2], [2, 4]), ([5], [5]), ([], []), ([6, 5, 0, 1, 2, 3, 4, 5, 6], [6]), ([7, 8, 0, 1, 2, 3, 4, 5, 6, 7, 8], [7])])
def coord_with.B3 : List Nat := [0, 1, 3, 0, 8, 31, 63, 0, 127, 511]
theorem coord_with.tab3 : rtab .any (opsOf Try.f30 3) = coord_with.T3 := by kernel_rfl
theorem coord_with.bits3 : waitsOk coord_with.T3.2 coord_with.B3 = true := by kernel_rfl
namespace Sh5
theorem am_ {p : Prop} (h : p) : Aside0 p := ⟨h⟩
theorem bx_ {Q P : Prop} (b : Aside0 Q) (h : Q → P := by intro hq_; (with_reducible repeat (first | refine blk_drewN ?_ _ | refine blk_drew ?_ | refine blk_alloc ?_ _)); exact hq_) : P := h b.out
theorem hx_ {Q P : Prop} (b : Aside0 Q) (h : Q → P := by intro hq_; repeat (first | (with_reducible first | exact hq_ | apply below_alloc | apply pw_below_drewN | apply below_drew1 | refine below_set ?_ (Aside0.out (by assumption))) | exact hq_)) : P := h b.out
theorem fz_ {Q G P : Prop} (q : Q) (g : Aside0 G) (h : Q → G → P := by intro q_ g_; first | exact Nat.ne_of_lt (Nat.lt_of_lt_of_le (by have := World.block_lt_of_cell? _ _ q_; first | rwa [add_block] at this | exact this) g_) | (rw [add_block]; exact Nat.ne_of_lt (Nat.lt_of_lt_of_le (by have := World.block_lt_of_cell? _ _ q_; first | rwa [add_block] at this | exact this) g_)) | (show (Addr.add _ _).block ≠ _; rw [add_block]; exact Nat.ne_of_lt (Nat.lt_of_lt_of_le (by have := World.block_lt_of_cell? _ _ q_; first | rwa [add_block] at this | exact this) g_)) | (dsimp only; exact Nat.ne_of_lt (Nat.lt_of_lt_of_le (by have := World.block_lt_of_cell? _ _ q_; first | rwa [add_block] at this | exact this) g_))) : P := h q g.out
theorem vx_ {Q P : Prop} (b : Aside0 Q) (h : Q → P := by intro hq_; (with_reducible repeat (first | apply Kd.V_alloc | apply Kd.V_drewN | apply Kd.V_drew)); exact hq_) : P := h b.out
theorem rx_ {Q P : Prop} (b : Aside0 Q) (h : Q → P := by intro hq_; (with_reducible repeat (first | apply Kd.R_alloc | apply Kd.R_drewN | apply Kd.R_drew)); exact hq_) : P := h b.out
theorem nx_ {Q P : Prop} (b : Aside0 Q) (h : Q → P := by intro hq_; (with_reducible repeat (first | apply Kd.N_alloc | apply Kd.N_drewN | apply Kd.N_drew)); exact hq_) : P := h b.out
abbrev bN0_ : Array Bool := #[false, false, false, false, false, false, false, false, false, false]
abbrev bN1_ : Array Bool := #[true, false, false, false, false, false, false, false, false, false]
abbrev bN2_ : Array Bool := #[true, false, false, false, false, false, false, true, false, false]
abbrev bN3_ : Array Bool := #[true, true, false, false, false, false, false, true, false, false]
abbrev bN4_ : Array Bool := #[true, true, false, true, false, false, false, true, false, false]
abbrev bN5_ : Array Bool := #[true, true, true, true, true, false, false, true, false, false]
abbrev bN6_ : Array Bool := #[true, true, true, true, false, false, false, true, false, false]
abbrev bN7_ : Array Bool := #[true, true, false, true, true, false, false, true, false, false]
abbrev bN8_ : Array Bool := #[true, true, true, true, true, true, false, true, false, false]
abbrev bN9_ : Array Bool := #[true, true, true, true, true, true, true, true, false, false]
abbrev bN10_ : Array Bool := #[true, true, true, true, true, true, true, true, true, false]
abbrev bN11_ : Array Bool := #[true, true, true, true, true, true, true, true, true, true]
end Sh5
open Sh5
set_option maxHeartbeats 8000000 in
set_option maxRecDepth 100000 in
theorem coord_with.calls (P0_0_ : Nat → Prop) (A0_0 : Option Addr) (c0_0 : Nat) (l0_0 : List (S42)) (a1_0 : Int) (a1_1 : Int) (P1_2_ : Nat → Prop) (A1_2 : Option Addr) (c1_2 : Nat) (l1_2 : List Int) (a1_3 : Int) (r1 : List (S42)) (r2 : Int) (r3 : ByteArray) (r4 : Int) (r5 : Bool) (r6 : Bool) (w : World) (hs0_0 : Kd.V k42 42 w w.heap.size (fun k_ => P0_0_ k_) (.slice A0_0 l0_0.length c0_0) l0_0) (hs1_2 : Kd.V (Kd.int .u64) 28 w w.heap.size (fun k_ => P1_2_ k_) (.slice A1_2 l1_2.length c1_2) l1_2) (h : coord_with.f l0_0 a1_0 a1_1 l1_2 a1_3 = some (r1, r2, r3, r4, r5, r6)) :
  Calls Try.prog 30 #[.agg #[.slice A0_0 l0_0.length c0_0], .agg #[.int .u64 a1_0, .int .u64 a1_1, .slice A1_2 l1_2.length c1_2, .int .i64 a1_3]] w fun e w' => ∃ v0_ : Value, e = .returned (.tuple #[.agg #[v0_], .agg #[.int .i64 r2, .string r3, .int .u64 r4, .bool r5, .bool r6]]) ∧ Kd.V k42 42 w' w.heap.size (fun k_ => ((P0_0_ k_ ∨ P1_2_ k_) ∨ w.heap.size ≤ k_)) v0_ r1 ∧ Below w.heap.size w w' := by
 have hu26 := Try.underlying26
 have hu42 := Try.underlying42
 have hu30 := Try.underlying30
 have HO0_0 := am_ (show Kd.V k42 42 w w.heap.size (fun k_ => ((P0_0_ k_ ∨ P1_2_ k_) ∨ w.heap.size ≤ k_)) (.slice A0_0 l0_0.length c0_0) l0_0 from Kd.V_mono hs0_0 (fun k_ hk => .inl (.inl hk)))
 have HO1_2 := am_ (show Kd.V (Kd.int .u64) 28 w w.heap.size (fun k_ => ((P0_0_ k_ ∨ P1_2_ k_) ∨ w.heap.size ≤ k_)) (.slice A1_2 l1_2.length c1_2) l1_2 from Kd.V_mono hs1_2 (fun k_ hk => .inl (.inr hk)))
 have HB := am_ (Below.refl w.heap.size w)
 have H : (if (l0_0.length : Int) ≥ 64 then ((coord_no.f l0_0 5).bind fun bt112 => (some (bt112.1, bt112.2.1, bt112.2.2.1, bt112.2.2.2.1, bt112.2.2.2.2.1, bt112.2.2.2.2.2))) else ((cloneD.f l0_0).bind fun t120 => ((some (([(⟨(⟨a1_0, a1_1⟩ : S34), l1_2, a1_3⟩ : S42)] : List (S42)) : List (S42))).bind fun y123 => (if t120.length + y123.length < 2932031007402 then (some ((t120 ++ y123), 0, (⟨#[]⟩ : ByteArray), 0, false, false)) else (none))))) = some (r1, r2, r3, r4, r5, r6) := h
 clear h
 by_cases c3 : (l0_0.length : Int) ≥ 64
 ·rw [if_pos c3] at H
  have c3b0 : decide (64 ≤ (l0_0.length : Int)) = true := decide_eq_true c3
  have c3b1 : decide (64 ≤ l0_0.length) = true := decide_eq_true (by omega)
  clear c3
  replace H := Option.bind_eq_some_iff.mp H
  obtain ⟨⟨t112, t115, t116, t117, t118, t119⟩, A40, H⟩ := H
  replace H : (some (t112, t115, t116, t117, t118, t119)) = some (r1, r2, r3, r4, r5, r6) := H
  have A4 := am_ A40
  clear A40
  simp only [Option.some.injEq, Prod.mk.injEq] at H
  obtain ⟨rfl, rfl, rfl, rfl, rfl, rfl⟩ := H
  go_enter Try.func30, Try.ntmps30
  go_wp2_with (first | ((with_reducible refine gate_dst (N := 2) rfl ?_); refine box_event ?hg (N := 2) ?hd (cs := #[.slice A0_0 l0_0.length c0_0]) (t := 26) ?hr ?_; (case hd => rfl); (case hg => rfl); (case hr => first | (go_simp; done) | (go_simp; rfl)); intro gb108 hg w5 hbox hb; have n0_ := am_ (Kd.V_below (Kd.V_elderB (vx_ HO0_0) gb108 (Nat.le_of_eq hg.symm)) hb); have n1_ := am_ (Kd.V_below (Kd.V_elderB (vx_ HO1_2) gb108 (Nat.le_of_eq hg.symm)) hb); have n2_ := am_ (below_step (hx_ HB) hb); have n3_ := am_ (hbox); have n4_ := am_ ((by rw [hg]; exact (below_size (hx_ HB)) : w.heap.size ≤ gb108)); have n5_ := am_ ((by rw [hg]; exact (below_size (hx_ HB)) : w.heap.size ≤ gb108)); clear HO0_0; clear HO1_2; clear HB; have HO0_0 := n0_; have HO1_2 := n1_; have HB := n2_; have BK108 := n3_; have GW108 := n4_; have GE108 := n5_; clear n0_ n1_ n2_ n3_ n4_ n5_; clear hb hbox hg) | ((with_reducible refine gate_dst (N := 3) rfl ?_); refine box_event ?hg (N := 3) ?hd (cs := #[.int .u64 a1_0, .int .u64 a1_1, .slice A1_2 l1_2.length c1_2, .int .i64 a1_3]) (t := 42) ?hr ?_; (case hd => rfl); (case hg => rfl); (case hr => first | (go_simp; done) | (go_simp; rfl)); intro gb109 hg w6 hbox hb; have n0_ := am_ (Kd.V_below (Kd.V_elderB (vx_ HO0_0) gb109 (Nat.le_of_eq hg.symm)) hb); have n1_ := am_ (Kd.V_below (Kd.V_elderB (vx_ HO1_2) gb109 (Nat.le_of_eq hg.symm)) hb); have n2_ := am_ (blk_below (g := gb108) (o := .cells #[.slice A0_0 l0_0.length c0_0] 26 (0, 0)) (bx_ BK108) hb); have n3_ := am_ (below_step (hx_ HB) hb); have n4_ := am_ (hbox); have n5_ := am_ ((by rw [hg]; exact (below_size (hx_ HB)) : w.heap.size ≤ gb109)); have n6_ := am_ ((by rw [hg]; exact (below_size (hx_ HB)) : w.heap.size ≤ gb109)); have n7_ := am_ ((by rw [hg]; exact Nat.ne_of_lt (blk_lt (g := gb108) (o := .cells #[.slice A0_0 l0_0.length c0_0] 26 (0, 0)) (bx_ BK108)) : gb108 ≠ gb109)); have n8_ := am_ ((by rw [hg]; exact Nat.ne_of_gt (blk_lt (g := gb108) (o := .cells #[.slice A0_0 l0_0.length c0_0] 26 (0, 0)) (bx_ BK108)) : gb109 ≠ gb108)); clear HO0_0; clear HO1_2; clear BK108; clear HB; have HO0_0 := n0_; have HO1_2 := n1_; have BK108 := n2_; have HB := n3_; have BK109 := n4_; have GW109 := n5_; have GE109 := n6_; have NB108_109 := n7_; have NB109_108 := n8_; clear n0_ n1_ n2_ n3_ n4_ n5_ n6_ n7_ n8_; clear hb hbox hg) | ((with_reducible refine gate_dst (N := 4) rfl ?_); refine box_event ?hg (N := 4) ?hd (cs := #[.slice none 0 0]) (t := 26) ?hr ?_; (case hd => rfl); (case hg => rfl); (case hr => first | (go_simp; done) | (go_simp; rfl)); intro gb110 hg w7 hbox hb; have n0_ := am_ (Kd.V_below (Kd.V_elderB (vx_ HO0_0) gb110 (Nat.le_of_eq hg.symm)) hb); have n1_ := am_ (Kd.V_below (Kd.V_elderB (vx_ HO1_2) gb110 (Nat.le_of_eq hg.symm)) hb); have n2_ := am_ (blk_below (g := gb108) (o := .cells #[.slice A0_0 l0_0.length c0_0] 26 (0, 0)) (bx_ BK108) hb); have n3_ := am_ (blk_below (g := gb109) (o := .cells #[.int .u64 a1_0, .int .u64 a1_1, .slice A1_2 l1_2.length c1_2, .int .i64 a1_3] 42 (0, 0)) (bx_ BK109) hb); have n4_ := am_ (below_step (hx_ HB) hb); have n5_ := am_ (hbox); have n6_ := am_ ((by rw [hg]; exact (below_size (hx_ HB)) : w.heap.size ≤ gb110)); have n7_ := am_ ((by rw [hg]; exact (below_size (hx_ HB)) : w.heap.size ≤ gb110)); have n8_ := am_ ((by rw [hg]; exact Nat.ne_of_lt (blk_lt (g := gb108) (o := .cells #[.slice A0_0 l0_0.length c0_0] 26 (0, 0)) (bx_ BK108)) : gb108 ≠ gb110)); have n9_ := am_ ((by rw [hg]; exact Nat.ne_of_gt (blk_lt (g := gb108) (o := .cells #[.slice A0_0 l0_0.length c0_0] 26 (0, 0)) (bx_ BK108)) : gb110 ≠ gb108)); have n10_ := am_ ((by rw [hg]; exact Nat.ne_of_lt (blk_lt (g := gb109) (o := .cells #[.int .u64 a1_0, .int .u64 a1_1, .slice A1_2 l1_2.length c1_2, .int .i64 a1_3] 42 (0, 0)) (bx_ BK109)) : gb109 ≠ gb110)); have n11_ := am_ ((by rw [hg]; exact Nat.ne_of_gt (blk_lt (g := gb109) (o := .cells #[.int .u64 a1_0, .int .u64 a1_1, .slice A1_2 l1_2.length c1_2, .int .i64 a1_3] 42 (0, 0)) (bx_ BK109)) : gb110 ≠ gb109)); clear HO0_0; clear HO1_2; clear BK108; clear BK109; clear HB; have HO0_0 := n0_; have HO1_2 := n1_; have BK108 := n2_; have BK109 := n3_; have HB := n4_; have BK110 := n5_; have GW110 := n6_; have GE110 := n7_; have NB108_110 := n8_; have NB110_108 := n9_; have NB109_110 := n10_; have NB110_109 := n11_; clear n0_ n1_ n2_ n3_ n4_ n5_ n6_ n7_ n8_ n9_ n10_ n11_; clear hb hbox hg) | ((with_reducible refine gate_dst (N := 5) rfl ?_); refine box_event ?hg (N := 5) ?hd (cs := #[.int .i64 0, .string (⟨#[]⟩ : ByteArray), .int .u64 0, .bool false, .bool false]) (t := 30) ?hr ?_; (case hd => rfl); (case hg => rfl); (case hr => first | (go_simp; done) | (go_simp; rfl)); intro gb111 hg w8 hbox hb; have n0_ := am_ (Kd.V_below (Kd.V_elderB (vx_ HO0_0) gb111 (Nat.le_of_eq hg.symm)) hb); have n1_ := am_ (Kd.V_below (Kd.V_elderB (vx_ HO1_2) gb111 (Nat.le_of_eq hg.symm)) hb); have n2_ := am_ (blk_below (g := gb108) (o := .cells #[.slice A0_0 l0_0.length c0_0] 26 (0, 0)) (bx_ BK108) hb); have n3_ := am_ (blk_below (g := gb109) (o := .cells #[.int .u64 a1_0, .int .u64 a1_1, .slice A1_2 l1_2.length c1_2, .int .i64 a1_3] 42 (0, 0)) (bx_ BK109) hb); have n4_ := am_ (blk_below (g := gb110) (o := .cells #[.slice none 0 0] 26 (0, 0)) (bx_ BK110) hb); have n5_ := am_ (below_step (hx_ HB) hb); have n6_ := am_ (hbox); have n7_ := am_ ((by rw [hg]; exact (below_size (hx_ HB)) : w.heap.size ≤ gb111)); have n8_ := am_ ((by rw [hg]; exact (below_size (hx_ HB)) : w.heap.size ≤ gb111)); have n9_ := am_ ((by rw [hg]; exact Nat.ne_of_lt (blk_lt (g := gb108) (o := .cells #[.slice A0_0 l0_0.length c0_0] 26 (0, 0)) (bx_ BK108)) : gb108 ≠ gb111)); have n10_ := am_ ((by rw [hg]; exact Nat.ne_of_gt (blk_lt (g := gb108) (o := .cells #[.slice A0_0 l0_0.length c0_0] 26 (0, 0)) (bx_ BK108)) : gb111 ≠ gb108)); have n11_ := am_ ((by rw [hg]; exact Nat.ne_of_lt (blk_lt (g := gb109) (o := .cells #[.int .u64 a1_0, .int .u64 a1_1, .slice A1_2 l1_2.length c1_2, .int .i64 a1_3] 42 (0, 0)) (bx_ BK109)) : gb109 ≠ gb111)); have n12_ := am_ ((by rw [hg]; exact Nat.ne_of_gt (blk_lt (g := gb109) (o := .cells #[.int .u64 a1_0, .int .u64 a1_1, .slice A1_2 l1_2.length c1_2, .int .i64 a1_3] 42 (0, 0)) (bx_ BK109)) : gb111 ≠ gb109)); have n13_ := am_ ((by rw [hg]; exact Nat.ne_of_lt (blk_lt (g := gb110) (o := .cells #[.slice none 0 0] 26 (0, 0)) (bx_ BK110)) : gb110 ≠ gb111)); have n14_ := am_ ((by rw [hg]; exact Nat.ne_of_gt (blk_lt (g := gb110) (o := .cells #[.slice none 0 0] 26 (0, 0)) (bx_ BK110)) : gb111 ≠ gb110)); clear HO0_0; clear HO1_2; clear BK108; clear BK109; clear BK110; clear HB; have HO0_0 := n0_; have HO1_2 := n1_; have BK108 := n2_; have BK109 := n3_; have BK110 := n4_; have HB := n5_; have BK111 := n6_; have GW111 := n7_; have GE111 := n8_; have NB108_111 := n9_; have NB111_108 := n10_; have NB109_111 := n11_; have NB111_109 := n12_; have NB110_111 := n13_; have NB111_110 := n14_; clear n0_ n1_ n2_ n3_ n4_ n5_ n6_ n7_ n8_ n9_ n10_ n11_ n12_ n13_ n14_; clear hb hbox hg; have hnb9 := NB108_109.out; have hnc9 := NB109_108.out; have hnb10 := NB108_110.out; have hnc10 := NB110_108.out; have hnb11 := NB108_111.out; have hnc11 := NB111_108.out; have hcz12_0 : w8.cell? ⟨gb108, 0, none⟩ = some (.slice A0_0 l0_0.length c0_0) := (blk_cell BK108.out 0).trans rfl; have hfz12_0 := blk_frozen BK108.out 0) | ((with_reducible refine gate_callee (f := 19) rfl ?_); refine goesL_ (some 11) rfl rfl Try.func19 (by kernel_rfl) rfl #[.agg #[.slice A0_0 l0_0.length c0_0], .int .i64 5] rfl (by (try simp only [List.map_toArray, List.map_cons, List.map_nil]); first | done | rfl | (simp only [List.length_drop, List.length_take]; rfl)) ?_; (with_reducible refine (coord_no.calls (fun k_ => ((((((P0_0_ k_ ∨ P1_2_ k_) ∨ w.heap.size ≤ k_) ∧ k_ ≠ gb108) ∧ k_ ≠ gb109) ∧ k_ ≠ gb110) ∧ k_ ≠ gb111)) _ _ l0_0 5 t112 t115 t116 t117 t118 t119 _ ?side1 A4.out).mono ?_); (case side1 => exact HO0_0.out); rintro e w13 ⟨v113, rfl, ho0, hb⟩; refine ⟨_, rfl, ?_⟩; have n0_ := am_ (Kd.V_below (vx_ HO0_0) hb); have n1_ := am_ (Kd.V_below (vx_ HO1_2) hb); have n2_ := am_ (Kd.V_lower (Kd.V_mono (ok' := fun k_ => ((P0_0_ k_ ∨ P1_2_ k_) ∨ w.heap.size ≤ k_) ∧ k_ ≠ gb108 ∧ k_ ≠ gb109 ∧ k_ ≠ gb110 ∧ k_ ≠ gb111) ho0 (fun k_ hk_ => ⟨Or.elim hk_ (fun hs_ => hs_.1.1.1.1) (fun hn_ => (.inr (Nat.le_trans (below_size (hx_ HB)) hn_))), Or.elim hk_ (fun hs_ => hs_.1.1.1.2) (fun hn_ => (Kd.freshB (g := gb108) (o := .cells #[.slice A0_0 l0_0.length c0_0] 26 (0, 0)) (bx_ BK108) k_ hn_)), Or.elim hk_ (fun hs_ => hs_.1.1.2) (fun hn_ => (Kd.freshB (g := gb109) (o := .cells #[.int .u64 a1_0, .int .u64 a1_1, .slice A1_2 l1_2.length c1_2, .int .i64 a1_3] 42 (0, 0)) (bx_ BK109) k_ hn_)), Or.elim hk_ (fun hs_ => hs_.1.2) (fun hn_ => (Kd.freshB (g := gb110) (o := .cells #[.slice none 0 0] 26 (0, 0)) (bx_ BK110) k_ hn_)), Or.elim hk_ (fun hs_ => hs_.2) (fun hn_ => (Kd.freshB (g := gb111) (o := .cells #[.int .i64 0, .string (⟨#[]⟩ : ByteArray), .int .u64 0, .bool false, .bool false] 30 (0, 0)) (bx_ BK111) k_ hn_))⟩)) (below_size (hx_ HB))); have n3_ := am_ (blk_below (g := gb108) (o := .cells #[.slice A0_0 l0_0.length c0_0] 26 (0, 0)) (bx_ BK108) hb); have n4_ := am_ (blk_below (g := gb109) (o := .cells #[.int .u64 a1_0, .int .u64 a1_1, .slice A1_2 l1_2.length c1_2, .int .i64 a1_3] 42 (0, 0)) (bx_ BK109) hb); have n5_ := am_ (blk_below (g := gb110) (o := .cells #[.slice none 0 0] 26 (0, 0)) (bx_ BK110) hb); have n6_ := am_ (blk_below (g := gb111) (o := .cells #[.int .i64 0, .string (⟨#[]⟩ : ByteArray), .int .u64 0, .bool false, .bool false] 30 (0, 0)) (bx_ BK111) hb); have n7_ := am_ (below_step (hx_ HB) hb); clear HO0_0; clear HO1_2; clear BK108; clear BK109; clear BK110; clear BK111; clear HB; have HO0_0 := n0_; have HO1_2 := n1_; have HO114 := n2_; have BK108 := n3_; have BK109 := n4_; have BK110 := n5_; have BK111 := n6_; have HB := n7_; clear n0_ n1_ n2_ n3_ n4_ n5_ n6_ n7_; (try clear hb); (try clear hb2); (try clear hk); (try clear hi); (try clear ho0); obtain ⟨Ao14, co14, eo14⟩ := Kd.V_slice HO114.out; subst eo14; have hnb15 := NB110_109.out; have hnc15 := NB109_110.out; have hnb16 := NB110_111.out; have hnc16 := NB111_110.out; have hcz17_0 : w13.cell? ⟨gb110, 0, none⟩ = some (.slice none 0 0) := (blk_cell BK110.out 0).trans rfl; have hfz17_0 := blk_frozen BK110.out 0; have hnb18 := NB111_109.out; have hnc18 := NB109_111.out; have hcz19_0 : w13.cell? ⟨gb111, 0, none⟩ = some (.int .i64 0) := (blk_cell BK111.out 0).trans rfl; have hcz19_1 : w13.cell? ⟨gb111, 1, none⟩ = some (.string (⟨#[]⟩ : ByteArray)) := (blk_cell BK111.out 1).trans rfl; have hcz19_2 : w13.cell? ⟨gb111, 2, none⟩ = some (.int .u64 0) := (blk_cell BK111.out 2).trans rfl; have hcz19_3 : w13.cell? ⟨gb111, 3, none⟩ = some (.bool false) := (blk_cell BK111.out 3).trans rfl; have hcz19_4 : w13.cell? ⟨gb111, 4, none⟩ = some (.bool false) := (blk_cell BK111.out 4).trans rfl; have hfz19_0 := blk_frozen BK111.out 0; have hfz19_1 := blk_frozen BK111.out 1; have hfz19_2 := blk_frozen BK111.out 2; have hfz19_3 := blk_frozen BK111.out 3; have hfz19_4 := blk_frozen BK111.out 4))
  refine bodyPost_ret (results_cc rfl _ _ gb110 gb111 26 30 #[.slice Ao14 t112.length co14] #[.int .i64 t115, .string t116, .int .u64 t117, .bool t118, .bool t119] (0, 0) (0, 0) _ _ rfl (by (with_reducible repeat (first | refine blk_drewN ?_ _ | refine blk_drew ?_ | refine blk_alloc ?_ _)); refine blk_far ?_ NB110_111.out _; (with_reducible repeat (first | refine blk_drewN ?_ _ | refine blk_drew ?_ | refine blk_alloc ?_ _)); refine blk_far ?_ NB110_111.out _; (with_reducible repeat (first | refine blk_drewN ?_ _ | refine blk_drew ?_ | refine blk_alloc ?_ _)); refine blk_far ?_ NB110_111.out _; (with_reducible repeat (first | refine blk_drewN ?_ _ | refine blk_drew ?_ | refine blk_alloc ?_ _)); refine blk_far ?_ NB110_111.out _; (with_reducible repeat (first | refine blk_drewN ?_ _ | refine blk_drew ?_ | refine blk_alloc ?_ _)); refine blk_far ?_ NB110_111.out _; (with_reducible repeat (first | refine blk_drewN ?_ _ | refine blk_drew ?_ | refine blk_alloc ?_ _)); refine blk_put (cs := #[.slice none 0 0]) ?_ 0 _ rfl; (with_reducible repeat (first | refine blk_drewN ?_ _ | refine blk_drew ?_ | refine blk_alloc ?_ _)); exact BK110.out) Try.underlying26 rfl (by kernel_rfl) rfl (by (with_reducible repeat (first | refine blk_drewN ?_ _ | refine blk_drew ?_ | refine blk_alloc ?_ _)); refine blk_put (cs := #[.int .i64 t115, .string t116, .int .u64 t117, .bool t118, .bool false]) ?_ 4 _ rfl; (with_reducible repeat (first | refine blk_drewN ?_ _ | refine blk_drew ?_ | refine blk_alloc ?_ _)); refine blk_put (cs := #[.int .i64 t115, .string t116, .int .u64 t117, .bool false, .bool false]) ?_ 3 _ rfl; (with_reducible repeat (first | refine blk_drewN ?_ _ | refine blk_drew ?_ | refine blk_alloc ?_ _)); refine blk_put (cs := #[.int .i64 t115, .string t116, .int .u64 0, .bool false, .bool false]) ?_ 2 _ rfl; (with_reducible repeat (first | refine blk_drewN ?_ _ | refine blk_drew ?_ | refine blk_alloc ?_ _)); refine blk_put (cs := #[.int .i64 t115, .string (⟨#[]⟩ : ByteArray), .int .u64 0, .bool false, .bool false]) ?_ 1 _ rfl; (with_reducible repeat (first | refine blk_drewN ?_ _ | refine blk_drew ?_ | refine blk_alloc ?_ _)); refine blk_put (cs := #[.int .i64 0, .string (⟨#[]⟩ : ByteArray), .int .u64 0, .bool false, .bool false]) ?_ 0 _ rfl; (with_reducible repeat (first | refine blk_drewN ?_ _ | refine blk_drew ?_ | refine blk_alloc ?_ _)); refine blk_far ?_ NB111_110.out _; (with_reducible repeat (first | refine blk_drewN ?_ _ | refine blk_drew ?_ | refine blk_alloc ?_ _)); exact BK111.out) Try.underlying30 rfl (by kernel_rfl)) rfl ?_
  exact ⟨_, by first | rfl | (simp [errW_none, errW_some] <;> rfl) | (simp [*, errW_none, errW_some] <;> rfl), by (with_reducible repeat (first | apply Kd.V_alloc | apply Kd.V_drewN | apply Kd.V_drew)); exact Kd.V_mono (Kd.V_far (p := ⟨gb111, 4, none⟩) (Kd.V_far (p := ⟨gb111, 3, none⟩) (Kd.V_far (p := ⟨gb111, 2, none⟩) (Kd.V_far (p := ⟨gb111, 1, none⟩) (Kd.V_far (p := ⟨gb111, 0, none⟩) (Kd.V_far (p := ⟨gb110, 0, none⟩) (Kd.V_mono (Kd.V_mono HO114.out (fun k_ hk => (⟨hk, hk.2.2.2.1⟩ : _ ∧ k_ ≠ gb110))) (fun k_ hk => (⟨hk, hk.1.2.2.2.2⟩ : _ ∧ k_ ≠ gb111))) (fun _ hk => hk.1.2) (.slice Ao14 t112.length co14)) (fun _ hk => hk.2) (.int .i64 t115)) (fun _ hk => hk.2) (.string t116)) (fun _ hk => hk.2) (.int .u64 t117)) (fun _ hk => hk.2) (.bool t118)) (fun _ hk => hk.2) (.bool t119)) (fun _ hk => hk.1.1.1), hx_ HB⟩
 ·rw [if_neg c3] at H
  have c3b0 : decide (64 ≤ (l0_0.length : Int)) = false := decide_eq_false c3
  have c3b1 : decide (64 ≤ l0_0.length) = false := decide_eq_false (by omega)
  clear c3
  replace H := Option.bind_eq_some_iff.mp H
  obtain ⟨t120, A200, H⟩ := H
  replace H : ((some (([(⟨(⟨a1_0, a1_1⟩ : S34), l1_2, a1_3⟩ : S42)] : List (S42)) : List (S42))).bind fun y123 => (if t120.length + y123.length < 2932031007402 then (some ((t120 ++ y123), 0, (⟨#[]⟩ : ByteArray), 0, false, false)) else (none))) = some (r1, r2, r3, r4, r5, r6) := H
  have A20 := am_ A200
  clear A200
  obtain ⟨y123, hy123⟩ : ∃ y_ : List (S42), y_ = (([(⟨(⟨a1_0, a1_1⟩ : S34), l1_2, a1_3⟩ : S42)] : List (S42))) := ⟨_, rfl⟩
  replace H : (if t120.length + y123.length < 2932031007402 then (some ((t120 ++ y123), 0, (⟨#[]⟩ : ByteArray), 0, false, false)) else (none)) = some (r1, r2, r3, r4, r5, r6) := by first | (rw [hy123]; with_reducible exact H) | (have H2_ := (Option.bind_some _ _).symm.trans H; rw [hy123]; with_reducible exact H2_) | (have H2_ := (Option.bind_some _ _).symm.trans H; with_reducible exact H2_) | with_reducible exact H | (rw [hy123]; exact H) | exact H
  have Ny123 := am_ hy123
  clear hy123
  by_cases c21 : t120.length + y123.length < 2932031007402
  ·rw [if_pos c21] at H
   have LMc21 := am_ c21
   clear c21
   obtain ⟨y126, hy126⟩ : ∃ y_ : List (S42), y_ = (t120 ++ y123) := ⟨_, rfl⟩
   replace H : (some (y126, 0, (⟨#[]⟩ : ByteArray), 0, false, false)) = some (r1, r2, r3, r4, r5, r6) := by first | (rw [hy126]; with_reducible exact H) | (have H2_ := (Option.bind_some _ _).symm.trans H; rw [hy126]; with_reducible exact H2_) | (have H2_ := (Option.bind_some _ _).symm.trans H; with_reducible exact H2_) | with_reducible exact H | (rw [hy126]; exact H) | exact H
   have Ny126 := am_ hy126
   clear hy126
   simp only [Option.some.injEq, Prod.mk.injEq] at H
   obtain ⟨rfl, rfl, rfl, rfl, rfl, rfl⟩ := H
   go_enter Try.func30, Try.ntmps30
   try go_wp2_with (first | ((with_reducible refine gate_dst (N := 2) rfl ?_); refine box_event ?hg (N := 2) ?hd (cs := #[.slice A0_0 l0_0.length c0_0]) (t := 26) ?hr ?_; (case hd => rfl); (case hg => rfl); (case hr => first | (go_simp; done) | (go_simp; rfl)); intro gb108 hg w22 hbox hb; have n0_ := am_ (Kd.V_below (Kd.V_elderB (vx_ HO0_0) gb108 (Nat.le_of_eq hg.symm)) hb); have n1_ := am_ (Kd.V_below (Kd.V_elderB (vx_ HO1_2) gb108 (Nat.le_of_eq hg.symm)) hb); have n2_ := am_ (below_step (hx_ HB) hb); have n3_ := am_ (hbox); have n4_ := am_ ((by rw [hg]; exact (below_size (hx_ HB)) : w.heap.size ≤ gb108)); have n5_ := am_ ((by rw [hg]; exact (below_size (hx_ HB)) : w.heap.size ≤ gb108)); clear HO0_0; clear HO1_2; clear HB; have HO0_0 := n0_; have HO1_2 := n1_; have HB := n2_; have BK108 := n3_; have GW108 := n4_; have GE108 := n5_; clear n0_ n1_ n2_ n3_ n4_ n5_; clear hb hbox hg) | ((with_reducible refine gate_dst (N := 3) rfl ?_); refine box_event ?hg (N := 3) ?hd (cs := #[.int .u64 a1_0, .int .u64 a1_1, .slice A1_2 l1_2.length c1_2, .int .i64 a1_3]) (t := 42) ?hr ?_; (case hd => rfl); (case hg => rfl); (case hr => first | (go_simp; done) | (go_simp; rfl)); intro gb109 hg w23 hbox hb; have n0_ := am_ (Kd.V_below (Kd.V_elderB (vx_ HO0_0) gb109 (Nat.le_of_eq hg.symm)) hb); have n1_ := am_ (Kd.V_below (Kd.V_elderB (vx_ HO1_2) gb109 (Nat.le_of_eq hg.symm)) hb); have n2_ := am_ (blk_below (g := gb108) (o := .cells #[.slice A0_0 l0_0.length c0_0] 26 (0, 0)) (bx_ BK108) hb); have n3_ := am_ (below_step (hx_ HB) hb); have n4_ := am_ (hbox); have n5_ := am_ ((by rw [hg]; exact (below_size (hx_ HB)) : w.heap.size ≤ gb109)); have n6_ := am_ ((by rw [hg]; exact (below_size (hx_ HB)) : w.heap.size ≤ gb109)); have n7_ := am_ ((by rw [hg]; exact Nat.ne_of_lt (blk_lt (g := gb108) (o := .cells #[.slice A0_0 l0_0.length c0_0] 26 (0, 0)) (bx_ BK108)) : gb108 ≠ gb109)); have n8_ := am_ ((by rw [hg]; exact Nat.ne_of_gt (blk_lt (g := gb108) (o := .cells #[.slice A0_0 l0_0.length c0_0] 26 (0, 0)) (bx_ BK108)) : gb109 ≠ gb108)); clear HO0_0; clear HO1_2; clear BK108; clear HB; have HO0_0 := n0_; have HO1_2 := n1_; have BK108 := n2_; have HB := n3_; have BK109 := n4_; have GW109 := n5_; have GE109 := n6_; have NB108_109 := n7_; have NB109_108 := n8_; clear n0_ n1_ n2_ n3_ n4_ n5_ n6_ n7_ n8_; clear hb hbox hg) | ((with_reducible refine gate_dst (N := 4) rfl ?_); refine box_event ?hg (N := 4) ?hd (cs := #[.slice none 0 0]) (t := 26) ?hr ?_; (case hd => rfl); (case hg => rfl); (case hr => first | (go_simp; done) | (go_simp; rfl)); intro gb110 hg w24 hbox hb; have n0_ := am_ (Kd.V_below (Kd.V_elderB (vx_ HO0_0) gb110 (Nat.le_of_eq hg.symm)) hb); have n1_ := am_ (Kd.V_below (Kd.V_elderB (vx_ HO1_2) gb110 (Nat.le_of_eq hg.symm)) hb); have n2_ := am_ (blk_below (g := gb108) (o := .cells #[.slice A0_0 l0_0.length c0_0] 26 (0, 0)) (bx_ BK108) hb); have n3_ := am_ (blk_below (g := gb109) (o := .cells #[.int .u64 a1_0, .int .u64 a1_1, .slice A1_2 l1_2.length c1_2, .int .i64 a1_3] 42 (0, 0)) (bx_ BK109) hb); have n4_ := am_ (below_step (hx_ HB) hb); have n5_ := am_ (hbox); have n6_ := am_ ((by rw [hg]; exact (below_size (hx_ HB)) : w.heap.size ≤ gb110)); have n7_ := am_ ((by rw [hg]; exact (below_size (hx_ HB)) : w.heap.size ≤ gb110)); have n8_ := am_ ((by rw [hg]; exact Nat.ne_of_lt (blk_lt (g := gb108) (o := .cells #[.slice A0_0 l0_0.length c0_0] 26 (0, 0)) (bx_ BK108)) : gb108 ≠ gb110)); have n9_ := am_ ((by rw [hg]; exact Nat.ne_of_gt (blk_lt (g := gb108) (o := .cells #[.slice A0_0 l0_0.length c0_0] 26 (0, 0)) (bx_ BK108)) : gb110 ≠ gb108)); have n10_ := am_ ((by rw [hg]; exact Nat.ne_of_lt (blk_lt (g := gb109) (o := .cells #[.int .u64 a1_0, .int .u64 a1_1, .slice A1_2 l1_2.length c1_2, .int .i64 a1_3] 42 (0, 0)) (bx_ BK109)) : gb109 ≠ gb110)); have n11_ := am_ ((by rw [hg]; exact Nat.ne_of_gt (blk_lt (g := gb109) (o := .cells #[.int .u64 a1_0, .int .u64 a1_1, .slice A1_2 l1_2.length c1_2, .int .i64 a1_3] 42 (0, 0)) (bx_ BK109)) : gb110 ≠ gb109)); clear HO0_0; clear HO1_2; clear BK108; clear BK109; clear HB; have HO0_0 := n0_; have HO1_2 := n1_; have BK108 := n2_; have BK109 := n3_; have HB := n4_; have BK110 := n5_; have GW110 := n6_; have GE110 := n7_; have NB108_110 := n8_; have NB110_108 := n9_; have NB109_110 := n10_; have NB110_109 := n11_; clear n0_ n1_ n2_ n3_ n4_ n5_ n6_ n7_ n8_ n9_ n10_ n11_; clear hb hbox hg) | ((with_reducible refine gate_dst (N := 5) rfl ?_); refine box_event ?hg (N := 5) ?hd (cs := #[.int .i64 0, .string (⟨#[]⟩ : ByteArray), .int .u64 0, .bool false, .bool false]) (t := 30) ?hr ?_; (case hd => rfl); (case hg => rfl); (case hr => first | (go_simp; done) | (go_simp; rfl)); intro gb111 hg w25 hbox hb; have n0_ := am_ (Kd.V_below (Kd.V_elderB (vx_ HO0_0) gb111 (Nat.le_of_eq hg.symm)) hb); have n1_ := am_ (Kd.V_below (Kd.V_elderB (vx_ HO1_2) gb111 (Nat.le_of_eq hg.symm)) hb); have n2_ := am_ (blk_below (g := gb108) (o := .cells #[.slice A0_0 l0_0.length c0_0] 26 (0, 0)) (bx_ BK108) hb); have n3_ := am_ (blk_below (g := gb109) (o := .cells #[.int .u64 a1_0, .int .u64 a1_1, .slice A1_2 l1_2.length c1_2, .int .i64 a1_3] 42 (0, 0)) (bx_ BK109) hb); have n4_ := am_ (blk_below (g := gb110) (o := .cells #[.slice none 0 0] 26 (0, 0)) (bx_ BK110) hb); have n5_ := am_ (below_step (hx_ HB) hb); have n6_ := am_ (hbox); have n7_ := am_ ((by rw [hg]; exact (below_size (hx_ HB)) : w.heap.size ≤ gb111)); have n8_ := am_ ((by rw [hg]; exact (below_size (hx_ HB)) : w.heap.size ≤ gb111)); have n9_ := am_ ((by rw [hg]; exact Nat.ne_of_lt (blk_lt (g := gb108) (o := .cells #[.slice A0_0 l0_0.length c0_0] 26 (0, 0)) (bx_ BK108)) : gb108 ≠ gb111)); have n10_ := am_ ((by rw [hg]; exact Nat.ne_of_gt (blk_lt (g := gb108) (o := .cells #[.slice A0_0 l0_0.length c0_0] 26 (0, 0)) (bx_ BK108)) : gb111 ≠ gb108)); have n11_ := am_ ((by rw [hg]; exact Nat.ne_of_lt (blk_lt (g := gb109) (o := .cells #[.int .u64 a1_0, .int .u64 a1_1, .slice A1_2 l1_2.length c1_2, .int .i64 a1_3] 42 (0, 0)) (bx_ BK109)) : gb109 ≠ gb111)); have n12_ := am_ ((by rw [hg]; exact Nat.ne_of_gt (blk_lt (g := gb109) (o := .cells #[.int .u64 a1_0, .int .u64 a1_1, .slice A1_2 l1_2.length c1_2, .int .i64 a1_3] 42 (0, 0)) (bx_ BK109)) : gb111 ≠ gb109)); have n13_ := am_ ((by rw [hg]; exact Nat.ne_of_lt (blk_lt (g := gb110) (o := .cells #[.slice none 0 0] 26 (0, 0)) (bx_ BK110)) : gb110 ≠ gb111)); have n14_ := am_ ((by rw [hg]; exact Nat.ne_of_gt (blk_lt (g := gb110) (o := .cells #[.slice none 0 0] 26 (0, 0)) (bx_ BK110)) : gb111 ≠ gb110)); clear HO0_0; clear HO1_2; clear BK108; clear BK109; clear BK110; clear HB; have HO0_0 := n0_; have HO1_2 := n1_; have BK108 := n2_; have BK109 := n3_; have BK110 := n4_; have HB := n5_; have BK111 := n6_; have GW111 := n7_; have GE111 := n8_; have NB108_111 := n9_; have NB111_108 := n10_; have NB109_111 := n11_; have NB111_109 := n12_; have NB110_111 := n13_; have NB111_110 := n14_; clear n0_ n1_ n2_ n3_ n4_ n5_ n6_ n7_ n8_ n9_ n10_ n11_ n12_ n13_ n14_; clear hb hbox hg; have hnb26 := NB108_109.out; have hnc26 := NB109_108.out; have hnb27 := NB108_110.out; have hnc27 := NB110_108.out; have hnb28 := NB108_111.out; have hnc28 := NB111_108.out; have hcz29_0 : w25.cell? ⟨gb108, 0, none⟩ = some (.slice A0_0 l0_0.length c0_0) := (blk_cell BK108.out 0).trans rfl; have hfz29_0 := blk_frozen BK108.out 0))
   have n0_ := am_ (Kd.V_drew HO0_0.out)
   have n1_ := am_ (Kd.V_drew HO1_2.out)
   have n2_ := am_ (blk_drew BK108.out)
   have n3_ := am_ (blk_drew BK109.out)
   have n4_ := am_ (blk_drew BK110.out)
   have n5_ := am_ (blk_drew BK111.out)
   have n6_ := am_ (below_drew1 HB.out)
   clear HO0_0
   clear HO1_2
   clear BK108
   clear BK109
   clear BK110
   clear BK111
   clear HB
   have HO0_0 := n0_
   have HO1_2 := n1_
   have BK108 := n2_
   have BK109 := n3_
   have BK110 := n4_
   have BK111 := n5_
   have HB := n6_
   clear n0_ n1_ n2_ n3_ n4_ n5_ n6_
   refine start_ (n := 10) (S := fun w' => w'.cell? ⟨gb108, 0, none⟩ = some (.slice A0_0 l0_0.length c0_0) ∧ w'.cell? ⟨gb109, 0, none⟩ = some (.int .u64 a1_0) ∧ w'.cell? ⟨gb109, 1, none⟩ = some (.int .u64 a1_1) ∧ w'.cell? ⟨gb109, 2, none⟩ = some (.slice A1_2 l1_2.length c1_2) ∧ w'.cell? ⟨gb109, 3, none⟩ = some (.int .i64 a1_3)) (ds := []) bN0_ (by kernel_rfl) rfl rfl ⟨(blk_cell BK108.out 0).trans rfl, (blk_cell BK109.out 0).trans rfl, (blk_cell BK109.out 1).trans rfl, (blk_cell BK109.out 2).trans rfl, (blk_cell BK109.out 3).trans rfl⟩ (fun hHeld => ?_); refine with_tabW coord_with.tab3 coord_with.bits3 (fun HT_ HW_ => ?_)
   generalize w25.drew = w30 at HO0_0 HO1_2 BK108 BK109 BK110 BK111 HB hHeld ⊢
   refine pure_ (i := 0) (N := some 14) (v := ?_) (a' := ?_) bN1_ rfl rfl (any_of HT_.out (by kernel_rfl)) (fun _ _ _ h => h) (Or.inl ⟨by rfl, ?_⟩) ?_ ?_; rotate_left; (intro w'; go_simp; with_reducible rfl); rotate_left; (simp only [Act.put, List.setIfInBounds_toArray, List.set_cons_zero, List.set_cons_succ, i64_w, i32_w]; rfl)
   refine pure_ (i := 7) (N := some 21) (v := ?_) (a' := ?_) bN2_ rfl rfl (any_of HT_.out (by kernel_rfl)) (fun _ _ _ h => h) (Or.inl ⟨by rfl, ?_⟩) ?_ ?_; rotate_left; (intro w'; go_simp; with_reducible rfl); rotate_left; (simp only [Act.put, List.setIfInBounds_toArray, List.set_cons_zero, List.set_cons_succ, i64_w, i32_w]; rfl)
   refine take_ (i := 1) (N := some 15) (v := ?_) (a' := ?_) bN3_ rfl rfl (take_ofW HT_.out HW_.out (by kernel_rfl)) (fun _ _ _ h => h) (Or.inl ⟨by rfl, ?_⟩) hHeld ?_ ?_; rotate_left; (rintro w' ⟨s0, s1, s2, s3, s4⟩; go_simp; with_reducible rfl); rotate_left; (simp only [Act.put, List.setIfInBounds_toArray, List.set_cons_zero, List.set_cons_succ, i64_w, i32_w]; rfl)
   refine take_ (i := 3) (N := some 17) (v := ?_) (a' := ?_) bN4_ rfl rfl (take_ofW HT_.out HW_.out (by kernel_rfl)) (fun _ _ _ h => h) (Or.inl ⟨by rfl, ?_⟩) hHeld ?_ ?_; rotate_left; (rintro w' ⟨s0, s1, s2, s3, s4⟩; go_simp; with_reducible rfl); rotate_left; (simp only [Act.put, List.setIfInBounds_toArray, List.set_cons_zero, List.set_cons_succ, i64_w, i32_w]; rfl)
   refine join_ (σ := Value × Value) 4 bN5_ (fun s_ => [(16, s_.1), (18, s_.2)]) (fun s_ w' => (w'.cell? ⟨gb108, 0, none⟩ = some (.slice A0_0 l0_0.length c0_0) ∧ w'.cell? ⟨gb109, 0, none⟩ = some (.int .u64 a1_0) ∧ w'.cell? ⟨gb109, 1, none⟩ = some (.int .u64 a1_1) ∧ w'.cell? ⟨gb109, 2, none⟩ = some (.slice A1_2 l1_2.length c1_2) ∧ w'.cell? ⟨gb109, 3, none⟩ = some (.int .i64 a1_3)) ∧ (Kd.V k42 42 w' w.heap.size (fun k_ => ((P0_0_ k_ ∨ P1_2_ k_) ∨ w.heap.size ≤ k_) ∧ some k_ ≠ (s_.1 : Value).ownBlock ∧ some k_ ≠ (s_.2 : Value).ownBlock ∧ k_ ≠ gb108 ∧ k_ ≠ gb109 ∧ k_ ≠ gb110 ∧ k_ ≠ gb111) (.slice A0_0 l0_0.length c0_0) l0_0) ∧ (Kd.N k42 42 w' w.heap.size (fun k_ => ((P0_0_ k_ ∨ P1_2_ k_) ∨ w.heap.size ≤ k_) ∧ some k_ ≠ (s_.2 : Value).ownBlock ∧ k_ ≠ gb108 ∧ k_ ≠ gb109 ∧ k_ ≠ gb110 ∧ k_ ≠ gb111) s_.1 t120) ∧ (Kd.N k42 42 w' w.heap.size (fun k_ => ((P0_0_ k_ ∨ P1_2_ k_) ∨ w.heap.size ≤ k_) ∧ some k_ ≠ (s_.1 : Value).ownBlock ∧ k_ ≠ gb108 ∧ k_ ≠ gb109 ∧ k_ ≠ gb110 ∧ k_ ≠ gb111) s_.2 y123) ∧ (Kd.V (Kd.int .u64) 28 w' w.heap.size (fun k_ => ((P0_0_ k_ ∨ P1_2_ k_) ∨ w.heap.size ≤ k_) ∧ some k_ ≠ (s_.1 : Value).ownBlock ∧ some k_ ≠ (s_.2 : Value).ownBlock ∧ k_ ≠ gb108 ∧ k_ ≠ gb109 ∧ k_ ≠ gb110 ∧ k_ ≠ gb111) (.slice A1_2 l1_2.length c1_2) l1_2) ∧ (w'.heap[gb108]? = some (.cells #[.slice A0_0 l0_0.length c0_0] 26 (0, 0))) ∧ (w'.heap[gb109]? = some (.cells #[.int .u64 a1_0, .int .u64 a1_1, .slice A1_2 l1_2.length c1_2, .int .i64 a1_3] 42 (0, 0))) ∧ (w'.heap[gb110]? = some (.cells #[.slice none 0 0] 26 (0, 0))) ∧ (w'.heap[gb111]? = some (.cells #[.int .i64 0, .string (⟨#[]⟩ : ByteArray), .int .u64 0, .bool false, .bool false] 30 (0, 0))) ∧ (Below w.heap.size w w')) ?_ ?_
   rotate_left
   ·intro hCont
    refine two_ (i := 2) (j := 4) (Ni := some 16) (Nj := some 18) bN6_ bN7_ rfl rfl rfl rfl (two_of HT_.out (by kernel_rfl)) (by decide) (by decide) (fun K hK => ?_) (fun K hK => ?_)
    ·skip
     refine goes_ Try.func31 (by kernel_rfl) rfl #[.slice A0_0 l0_0.length c0_0] (by rfl) rfl rfl (by (try simp only [List.map_toArray, List.map_cons, List.map_nil]); first | done | rfl | (simp only [List.length_drop, List.length_take]; rfl)) ?_
     with_reducible refine (cloneD.calls (fun k_ => ((((((P0_0_ k_ ∨ P1_2_ k_) ∨ w.heap.size ≤ k_) ∧ k_ ≠ gb108) ∧ k_ ≠ gb109) ∧ k_ ≠ gb110) ∧ k_ ≠ gb111)) _ _ l0_0 t120 _ ?side1 A20.out).mono ?_
     (case side1 => exact HO0_0.out)
     rintro e w31 ⟨v121, rfl, ho0, hb⟩
     refine ⟨_, rfl, ?_⟩
     have n0_ := am_ (Kd.V_elder' (vx_ HO0_0) (Kd.N_base ho0) hb)
     have n1_ := am_ (Kd.V_elder' (vx_ HO1_2) (Kd.N_base ho0) hb)
     have n2_ := am_ (Kd.N_lower (Kd.N_mono (ok' := fun k_ => ((P0_0_ k_ ∨ P1_2_ k_) ∨ w.heap.size ≤ k_) ∧ k_ ≠ gb108 ∧ k_ ≠ gb109 ∧ k_ ≠ gb110 ∧ k_ ≠ gb111) ho0 (fun k_ hk_ => ⟨Or.elim hk_ (fun hs_ => hs_.1.1.1.1) (fun hn_ => (.inr (Nat.le_trans (below_size (hx_ HB)) hn_))), Or.elim hk_ (fun hs_ => hs_.1.1.1.2) (fun hn_ => (Kd.freshB (g := gb108) (o := .cells #[.slice A0_0 l0_0.length c0_0] 26 (0, 0)) (bx_ BK108) k_ hn_)), Or.elim hk_ (fun hs_ => hs_.1.1.2) (fun hn_ => (Kd.freshB (g := gb109) (o := .cells #[.int .u64 a1_0, .int .u64 a1_1, .slice A1_2 l1_2.length c1_2, .int .i64 a1_3] 42 (0, 0)) (bx_ BK109) k_ hn_)), Or.elim hk_ (fun hs_ => hs_.1.2) (fun hn_ => (Kd.freshB (g := gb110) (o := .cells #[.slice none 0 0] 26 (0, 0)) (bx_ BK110) k_ hn_)), Or.elim hk_ (fun hs_ => hs_.2) (fun hn_ => (Kd.freshB (g := gb111) (o := .cells #[.int .i64 0, .string (⟨#[]⟩ : ByteArray), .int .u64 0, .bool false, .bool false] 30 (0, 0)) (bx_ BK111) k_ hn_))⟩)) (below_size (hx_ HB)))
     have n3_ := am_ (blk_below (g := gb108) (o := .cells #[.slice A0_0 l0_0.length c0_0] 26 (0, 0)) (bx_ BK108) hb)
     have n4_ := am_ (blk_below (g := gb109) (o := .cells #[.int .u64 a1_0, .int .u64 a1_1, .slice A1_2 l1_2.length c1_2, .int .i64 a1_3] 42 (0, 0)) (bx_ BK109) hb)
     have n5_ := am_ (blk_below (g := gb110) (o := .cells #[.slice none 0 0] 26 (0, 0)) (bx_ BK110) hb)
     have n6_ := am_ (blk_below (g := gb111) (o := .cells #[.int .i64 0, .string (⟨#[]⟩ : ByteArray), .int .u64 0, .bool false, .bool false] 30 (0, 0)) (bx_ BK111) hb)
     have n7_ := am_ (below_step (hx_ HB) hb)
     clear HO0_0
     clear HO1_2
     clear BK108
     clear BK109
     clear BK110
     clear BK111
     clear HB
     have HO0_0 := n0_
     have HO1_2 := n1_
     have HO122 := n2_
     have BK108 := n3_
     have BK109 := n4_
     have BK110 := n5_
     have BK111 := n6_
     have HB := n7_
     clear n0_ n1_ n2_ n3_ n4_ n5_ n6_ n7_
     (try clear hb)
     (try clear hb2)
     (try clear hk)
     (try clear hi)
     (try clear ho0)
     refine hK.out _ _ ⟨(blk_cell BK108.out 0).trans rfl, (blk_cell BK109.out 0).trans rfl, (blk_cell BK109.out 1).trans rfl, (blk_cell BK109.out 2).trans rfl, (blk_cell BK109.out 3).trans rfl⟩ (fun hHeld => ?_)
     clear hK K
     refine norm_ (a' := ?_) ?_ ?_
     rotate_left
     ·show Act.put _ (some 16) _ = _
      simp only [Act.put, List.setIfInBounds_toArray, List.set_cons_zero, List.set_cons_succ, i64_w, i32_w]
      rfl
     refine one_ (i := 4) (N := some 18) bN5_ rfl rfl (one_of HT_.out (by kernel_rfl)) (by decide) (fun K hK => ?_)
     refine Kd.N_lit_step k42 _ 42 ?hg (N' := 18) ?hd (xs := ([(⟨(⟨a1_0, a1_1⟩ : S34), l1_2, a1_3⟩ : S42)] : List (S42))) (inner := [.int .u64 a1_0, .int .u64 a1_1, .slice A1_2 l1_2.length c1_2, .int .i64 a1_3]) (ok := (fun k_ => ((P0_0_ k_ ∨ P1_2_ k_) ∨ w.heap.size ≤ k_) ∧ some k_ ≠ (v121 : Value).ownBlock ∧ k_ ≠ gb108 ∧ k_ ≠ gb109 ∧ k_ ≠ gb110 ∧ k_ ≠ gb111)) (okp := (fun k_ => ((P0_0_ k_ ∨ P1_2_ k_) ∨ w.heap.size ≤ k_) ∧ some k_ ≠ (v121 : Value).ownBlock ∧ k_ ≠ gb108 ∧ k_ ≠ gb109 ∧ k_ ≠ gb110 ∧ k_ ≠ gb111)) ?hr ?hp (fun _ hk => hk) ((show ∀ k_, w31.heap.size ≤ k_ → (fun k_ => ((P0_0_ k_ ∨ P1_2_ k_) ∨ w.heap.size ≤ k_) ∧ some k_ ≠ (v121 : Value).ownBlock ∧ k_ ≠ gb108 ∧ k_ ≠ gb109 ∧ k_ ≠ gb110 ∧ k_ ≠ gb111) k_ from fun k_ hk => ⟨(.inr (Nat.le_trans (below_size (hx_ HB)) hk)), Kd.fresh' (Kd.N_lt (nx_ HO122)) k_ hk, Kd.freshB (g := gb108) (o := .cells #[.slice A0_0 l0_0.length c0_0] 26 (0, 0)) (bx_ BK108) k_ hk, Kd.freshB (g := gb109) (o := .cells #[.int .u64 a1_0, .int .u64 a1_1, .slice A1_2 l1_2.length c1_2, .int .i64 a1_3] 42 (0, 0)) (bx_ BK109) k_ hk, Kd.freshB (g := gb110) (o := .cells #[.slice none 0 0] 26 (0, 0)) (bx_ BK110) k_ hk, Kd.freshB (g := gb111) (o := .cells #[.int .i64 0, .string (⟨#[]⟩ : ByteArray), .int .u64 0, .bool false, .bool false] 30 (0, 0)) (bx_ BK111) k_ hk⟩) _ (Nat.le_refl _)) (Below.refl _ _) (Nat.le_refl _) (by simp) ?_; (case hd => rfl); (case hg => rfl); (case hr => first | (go_simp; done) | (go_simp; rfl)); (case hp => exact (Reps.c4 (show Kd.FK k42 _ _ (⟨(⟨a1_0, a1_1⟩ : S34), l1_2, a1_3⟩ : S42) [.int .u64 a1_0, .int .u64 a1_1, .slice A1_2 l1_2.length c1_2, .int .i64 a1_3] from (k42_mkF _ _ (⟨(⟨a1_0, a1_1⟩ : S34), l1_2, a1_3⟩ : S42) (Kd.V_reads' (Kd.V_mono (ok' := (fun k_ => ((P0_0_ k_ ∨ P1_2_ k_) ∨ w.heap.size ≤ k_) ∧ some k_ ≠ (v121 : Value).ownBlock ∧ k_ ≠ gb108 ∧ k_ ≠ gb109 ∧ k_ ≠ gb110 ∧ k_ ≠ gb111)) (HO1_2.out) (fun k_ hk => ⟨hk.1.1.1.1.1, ⟨hk.2, ⟨hk.1.1.1.1.2, ⟨hk.1.1.1.2, ⟨hk.1.1.2, hk.1.2⟩⟩⟩⟩⟩))).2.1 (Kd.V_F (Kd.V_mono (ok' := (fun k_ => ((P0_0_ k_ ∨ P1_2_ k_) ∨ w.heap.size ≤ k_) ∧ some k_ ≠ (v121 : Value).ownBlock ∧ k_ ≠ gb108 ∧ k_ ≠ gb109 ∧ k_ ≠ gb110 ∧ k_ ≠ gb111)) (HO1_2.out) (fun k_ hk => ⟨hk.1.1.1.1.1, ⟨hk.2, ⟨hk.1.1.1.1.2, ⟨hk.1.1.1.2, ⟨hk.1.1.2, hk.1.2⟩⟩⟩⟩⟩))))) (Reps.none _ _)))
     intro v124 w32 ho33 hb hg_ hnew_
     clear hg_ hnew_
     (first | rw [← Ny123.out] at ho33 | (simp only [Int.reduceToNat] at ho33; rw [← Ny123.out] at ho33))
     have n0_ := am_ (Kd.V_elder' (vx_ HO0_0) (Kd.N_base ho33) hb)
     have n1_ := am_ (Kd.V_elder' (vx_ HO1_2) (Kd.N_base ho33) hb)
     have n2_ := am_ (Kd.N_elder' (nx_ HO122) (Kd.N_base ho33) hb)
     have n3_ := am_ (Kd.N_lower ho33 (below_size (hx_ HB)))
     have n4_ := am_ (blk_below (g := gb108) (o := .cells #[.slice A0_0 l0_0.length c0_0] 26 (0, 0)) (bx_ BK108) hb)
     have n5_ := am_ (blk_below (g := gb109) (o := .cells #[.int .u64 a1_0, .int .u64 a1_1, .slice A1_2 l1_2.length c1_2, .int .i64 a1_3] 42 (0, 0)) (bx_ BK109) hb)
     have n6_ := am_ (blk_below (g := gb110) (o := .cells #[.slice none 0 0] 26 (0, 0)) (bx_ BK110) hb)
     have n7_ := am_ (blk_below (g := gb111) (o := .cells #[.int .i64 0, .string (⟨#[]⟩ : ByteArray), .int .u64 0, .bool false, .bool false] 30 (0, 0)) (bx_ BK111) hb)
     have n8_ := am_ (below_step (hx_ HB) hb)
     clear HO0_0
     clear HO1_2
     clear HO122
     clear BK108
     clear BK109
     clear BK110
     clear BK111
     clear HB
     have HO0_0 := n0_
     have HO1_2 := n1_
     have HO122 := n2_
     have HO125 := n3_
     have BK108 := n4_
     have BK109 := n5_
     have BK110 := n6_
     have BK111 := n7_
     have HB := n8_
     clear n0_ n1_ n2_ n3_ n4_ n5_ n6_ n7_ n8_
     clear hb ho33
     refine hK.out _ _ ⟨(blk_cell BK108.out 0).trans rfl, (blk_cell BK109.out 0).trans rfl, (blk_cell BK109.out 1).trans rfl, (blk_cell BK109.out 2).trans rfl, (blk_cell BK109.out 3).trans rfl⟩ (fun hHeld => ?_)
     clear hK K
     refine norm_ (a' := ?_) ?_ ?_
     rotate_left
     ·show Act.put _ (some 18) _ = _
      simp only [Act.put, List.setIfInBounds_toArray, List.set_cons_zero, List.set_cons_succ, i64_w, i32_w]
      rfl
     exact norm_ (by simp only [putAll, Act.put, List.setIfInBounds_toArray, List.set_cons_zero, List.set_cons_succ]) (hCont (v121, v124) _ ⟨hHeld, (by (with_reducible repeat (first | apply Kd.V_alloc | apply Kd.V_drewN | apply Kd.V_drew)); exact Kd.V_mono HO0_0.out (fun _ hk => ⟨hk.1.1.1.1.1.1, ⟨hk.1.2, ⟨hk.2, ⟨hk.1.1.1.1.1.2, ⟨hk.1.1.1.1.2, ⟨hk.1.1.1.2, hk.1.1.2⟩⟩⟩⟩⟩⟩)), (by (with_reducible repeat (first | apply Kd.N_alloc | apply Kd.N_drewN | apply Kd.N_drew)); exact Kd.N_mono HO122.out (fun _ hk => ⟨hk.1.1, ⟨hk.2, ⟨hk.1.2.1, ⟨hk.1.2.2.1, ⟨hk.1.2.2.2.1, hk.1.2.2.2.2⟩⟩⟩⟩⟩)), (nx_ HO125), (by (with_reducible repeat (first | apply Kd.V_alloc | apply Kd.V_drewN | apply Kd.V_drew)); exact Kd.V_mono HO1_2.out (fun _ hk => ⟨hk.1.1.1.1.1.1, ⟨hk.1.2, ⟨hk.2, ⟨hk.1.1.1.1.1.2, ⟨hk.1.1.1.1.2, ⟨hk.1.1.1.2, hk.1.1.2⟩⟩⟩⟩⟩⟩)), (bx_ BK108), (bx_ BK109), (bx_ BK110), (bx_ BK111), (hx_ HB)⟩)
    ·skip
     refine Kd.N_lit_step k42 _ 42 ?hg (N' := 18) ?hd (xs := ([(⟨(⟨a1_0, a1_1⟩ : S34), l1_2, a1_3⟩ : S42)] : List (S42))) (inner := [.int .u64 a1_0, .int .u64 a1_1, .slice A1_2 l1_2.length c1_2, .int .i64 a1_3]) (ok := (fun k_ => ((P0_0_ k_ ∨ P1_2_ k_) ∨ w.heap.size ≤ k_) ∧ k_ ≠ gb108 ∧ k_ ≠ gb109 ∧ k_ ≠ gb110 ∧ k_ ≠ gb111)) (okp := (fun k_ => ((P0_0_ k_ ∨ P1_2_ k_) ∨ w.heap.size ≤ k_) ∧ k_ ≠ gb108 ∧ k_ ≠ gb109 ∧ k_ ≠ gb110 ∧ k_ ≠ gb111)) ?hr ?hp (fun _ hk => hk) ((show ∀ k_, w30.heap.size ≤ k_ → (fun k_ => ((P0_0_ k_ ∨ P1_2_ k_) ∨ w.heap.size ≤ k_) ∧ k_ ≠ gb108 ∧ k_ ≠ gb109 ∧ k_ ≠ gb110 ∧ k_ ≠ gb111) k_ from fun k_ hk => ⟨(.inr (Nat.le_trans (below_size (hx_ HB)) hk)), Kd.freshB (g := gb108) (o := .cells #[.slice A0_0 l0_0.length c0_0] 26 (0, 0)) (bx_ BK108) k_ hk, Kd.freshB (g := gb109) (o := .cells #[.int .u64 a1_0, .int .u64 a1_1, .slice A1_2 l1_2.length c1_2, .int .i64 a1_3] 42 (0, 0)) (bx_ BK109) k_ hk, Kd.freshB (g := gb110) (o := .cells #[.slice none 0 0] 26 (0, 0)) (bx_ BK110) k_ hk, Kd.freshB (g := gb111) (o := .cells #[.int .i64 0, .string (⟨#[]⟩ : ByteArray), .int .u64 0, .bool false, .bool false] 30 (0, 0)) (bx_ BK111) k_ hk⟩) _ (Nat.le_refl _)) (Below.refl _ _) (Nat.le_refl _) (by simp) ?_; (case hd => rfl); (case hg => rfl); (case hr => first | (go_simp; done) | (go_simp; rfl)); (case hp => exact (Reps.c4 (show Kd.FK k42 _ _ (⟨(⟨a1_0, a1_1⟩ : S34), l1_2, a1_3⟩ : S42) [.int .u64 a1_0, .int .u64 a1_1, .slice A1_2 l1_2.length c1_2, .int .i64 a1_3] from (k42_mkF _ _ (⟨(⟨a1_0, a1_1⟩ : S34), l1_2, a1_3⟩ : S42) (Kd.V_reads' (Kd.V_mono (ok' := (fun k_ => ((P0_0_ k_ ∨ P1_2_ k_) ∨ w.heap.size ≤ k_) ∧ k_ ≠ gb108 ∧ k_ ≠ gb109 ∧ k_ ≠ gb110 ∧ k_ ≠ gb111)) (HO1_2.out) (fun k_ hk => ⟨hk.1.1.1.1, ⟨hk.1.1.1.2, ⟨hk.1.1.2, ⟨hk.1.2, hk.2⟩⟩⟩⟩))).2.1 (Kd.V_F (Kd.V_mono (ok' := (fun k_ => ((P0_0_ k_ ∨ P1_2_ k_) ∨ w.heap.size ≤ k_) ∧ k_ ≠ gb108 ∧ k_ ≠ gb109 ∧ k_ ≠ gb110 ∧ k_ ≠ gb111)) (HO1_2.out) (fun k_ hk => ⟨hk.1.1.1.1, ⟨hk.1.1.1.2, ⟨hk.1.1.2, ⟨hk.1.2, hk.2⟩⟩⟩⟩))))) (Reps.none _ _)))
     intro v124 w31 ho32 hb hg_ hnew_
     clear hg_ hnew_
     (first | rw [← Ny123.out] at ho32 | (simp only [Int.reduceToNat] at ho32; rw [← Ny123.out] at ho32))
     have n0_ := am_ (Kd.V_elder' (vx_ HO0_0) (Kd.N_base ho32) hb)
     have n1_ := am_ (Kd.V_elder' (vx_ HO1_2) (Kd.N_base ho32) hb)
     have n2_ := am_ (Kd.N_lower ho32 (below_size (hx_ HB)))
     have n3_ := am_ (blk_below (g := gb108) (o := .cells #[.slice A0_0 l0_0.length c0_0] 26 (0, 0)) (bx_ BK108) hb)
     have n4_ := am_ (blk_below (g := gb109) (o := .cells #[.int .u64 a1_0, .int .u64 a1_1, .slice A1_2 l1_2.length c1_2, .int .i64 a1_3] 42 (0, 0)) (bx_ BK109) hb)
     have n5_ := am_ (blk_below (g := gb110) (o := .cells #[.slice none 0 0] 26 (0, 0)) (bx_ BK110) hb)
     have n6_ := am_ (blk_below (g := gb111) (o := .cells #[.int .i64 0, .string (⟨#[]⟩ : ByteArray), .int .u64 0, .bool false, .bool false] 30 (0, 0)) (bx_ BK111) hb)
     have n7_ := am_ (below_step (hx_ HB) hb)
     clear HO0_0
     clear HO1_2
     clear BK108
     clear BK109
     clear BK110
     clear BK111
     clear HB
     have HO0_0 := n0_
     have HO1_2 := n1_
     have HO125 := n2_
     have BK108 := n3_
     have BK109 := n4_
     have BK110 := n5_
     have BK111 := n6_
     have HB := n7_
     clear n0_ n1_ n2_ n3_ n4_ n5_ n6_ n7_
     clear hb ho32
     refine hK.out _ _ ⟨(blk_cell BK108.out 0).trans rfl, (blk_cell BK109.out 0).trans rfl, (blk_cell BK109.out 1).trans rfl, (blk_cell BK109.out 2).trans rfl, (blk_cell BK109.out 3).trans rfl⟩ (fun hHeld => ?_)
     clear hK K
     refine norm_ (a' := ?_) ?_ ?_
     rotate_left
     ·show Act.put _ (some 18) _ = _
      simp only [Act.put, List.setIfInBounds_toArray, List.set_cons_zero, List.set_cons_succ, i64_w, i32_w]
      rfl
     refine one_ (i := 2) (N := some 16) bN5_ rfl rfl (one_of HT_.out (by kernel_rfl)) (by decide) (fun K hK => ?_)
     refine goes_ Try.func31 (by kernel_rfl) rfl #[.slice A0_0 l0_0.length c0_0] (by rfl) rfl rfl (by (try simp only [List.map_toArray, List.map_cons, List.map_nil]); first | done | rfl | (simp only [List.length_drop, List.length_take]; rfl)) ?_
     with_reducible refine (cloneD.calls (fun k_ => (((((((P0_0_ k_ ∨ P1_2_ k_) ∨ w.heap.size ≤ k_) ∧ k_ ≠ gb108) ∧ k_ ≠ gb109) ∧ k_ ≠ gb110) ∧ k_ ≠ gb111) ∧ some k_ ≠ (v124 : Value).ownBlock)) _ _ l0_0 t120 _ ?side1 A20.out).mono ?_
     (case side1 => exact HO0_0.out)
     rintro e w33 ⟨v121, rfl, ho0, hb⟩
     refine ⟨_, rfl, ?_⟩
     have n0_ := am_ (Kd.V_elder' (vx_ HO0_0) (Kd.N_base ho0) hb)
     have n1_ := am_ (Kd.V_elder' (vx_ HO1_2) (Kd.N_base ho0) hb)
     have n2_ := am_ (Kd.N_elder' (nx_ HO125) (Kd.N_base ho0) hb)
     have n3_ := am_ (Kd.N_lower (Kd.N_mono (ok' := fun k_ => ((P0_0_ k_ ∨ P1_2_ k_) ∨ w.heap.size ≤ k_) ∧ some k_ ≠ (v124 : Value).ownBlock ∧ k_ ≠ gb108 ∧ k_ ≠ gb109 ∧ k_ ≠ gb110 ∧ k_ ≠ gb111) ho0 (fun k_ hk_ => ⟨Or.elim hk_ (fun hs_ => hs_.1.1.1.1.1) (fun hn_ => (.inr (Nat.le_trans (below_size (hx_ HB)) hn_))), Or.elim hk_ (fun hs_ => hs_.2) (fun hn_ => (Kd.fresh' (Kd.N_lt (nx_ HO125)) k_ hn_)), Or.elim hk_ (fun hs_ => hs_.1.1.1.1.2) (fun hn_ => (Kd.freshB (g := gb108) (o := .cells #[.slice A0_0 l0_0.length c0_0] 26 (0, 0)) (bx_ BK108) k_ hn_)), Or.elim hk_ (fun hs_ => hs_.1.1.1.2) (fun hn_ => (Kd.freshB (g := gb109) (o := .cells #[.int .u64 a1_0, .int .u64 a1_1, .slice A1_2 l1_2.length c1_2, .int .i64 a1_3] 42 (0, 0)) (bx_ BK109) k_ hn_)), Or.elim hk_ (fun hs_ => hs_.1.1.2) (fun hn_ => (Kd.freshB (g := gb110) (o := .cells #[.slice none 0 0] 26 (0, 0)) (bx_ BK110) k_ hn_)), Or.elim hk_ (fun hs_ => hs_.1.2) (fun hn_ => (Kd.freshB (g := gb111) (o := .cells #[.int .i64 0, .string (⟨#[]⟩ : ByteArray), .int .u64 0, .bool false, .bool false] 30 (0, 0)) (bx_ BK111) k_ hn_))⟩)) (below_size (hx_ HB)))
     have n4_ := am_ (blk_below (g := gb108) (o := .cells #[.slice A0_0 l0_0.length c0_0] 26 (0, 0)) (bx_ BK108) hb)
     have n5_ := am_ (blk_below (g := gb109) (o := .cells #[.int .u64 a1_0, .int .u64 a1_1, .slice A1_2 l1_2.length c1_2, .int .i64 a1_3] 42 (0, 0)) (bx_ BK109) hb)
     have n6_ := am_ (blk_below (g := gb110) (o := .cells #[.slice none 0 0] 26 (0, 0)) (bx_ BK110) hb)
     have n7_ := am_ (blk_below (g := gb111) (o := .cells #[.int .i64 0, .string (⟨#[]⟩ : ByteArray), .int .u64 0, .bool false, .bool false] 30 (0, 0)) (bx_ BK111) hb)
     have n8_ := am_ (below_step (hx_ HB) hb)
     clear HO0_0
     clear HO1_2
     clear HO125
     clear BK108
     clear BK109
     clear BK110
     clear BK111
     clear HB
     have HO0_0 := n0_
     have HO1_2 := n1_
     have HO125 := n2_
     have HO122 := n3_
     have BK108 := n4_
     have BK109 := n5_
     have BK110 := n6_
     have BK111 := n7_
     have HB := n8_
     clear n0_ n1_ n2_ n3_ n4_ n5_ n6_ n7_ n8_
     (try clear hb)
     (try clear hb2)
     (try clear hk)
     (try clear hi)
     (try clear ho0)
     refine hK.out _ _ ⟨(blk_cell BK108.out 0).trans rfl, (blk_cell BK109.out 0).trans rfl, (blk_cell BK109.out 1).trans rfl, (blk_cell BK109.out 2).trans rfl, (blk_cell BK109.out 3).trans rfl⟩ (fun hHeld => ?_)
     clear hK K
     refine norm_ (a' := ?_) ?_ ?_
     rotate_left
     ·show Act.put _ (some 16) _ = _
      simp only [Act.put, List.setIfInBounds_toArray, List.set_cons_zero, List.set_cons_succ, i64_w, i32_w]
      rfl
     exact norm_ (by simp only [putAll, Act.put, List.setIfInBounds_toArray, List.set_cons_zero, List.set_cons_succ]) (hCont (v121, v124) _ ⟨hHeld, (by (with_reducible repeat (first | apply Kd.V_alloc | apply Kd.V_drewN | apply Kd.V_drew)); exact Kd.V_mono HO0_0.out (fun _ hk => ⟨hk.1.1.1.1.1.1, ⟨hk.2, ⟨hk.1.2, ⟨hk.1.1.1.1.1.2, ⟨hk.1.1.1.1.2, ⟨hk.1.1.1.2, hk.1.1.2⟩⟩⟩⟩⟩⟩)), (nx_ HO122), (by (with_reducible repeat (first | apply Kd.N_alloc | apply Kd.N_drewN | apply Kd.N_drew)); exact Kd.N_mono HO125.out (fun _ hk => ⟨hk.1.1, ⟨hk.2, ⟨hk.1.2.1, ⟨hk.1.2.2.1, ⟨hk.1.2.2.2.1, hk.1.2.2.2.2⟩⟩⟩⟩⟩)), (by (with_reducible repeat (first | apply Kd.V_alloc | apply Kd.V_drewN | apply Kd.V_drew)); exact Kd.V_mono HO1_2.out (fun _ hk => ⟨hk.1.1.1.1.1.1, ⟨hk.2, ⟨hk.1.2, ⟨hk.1.1.1.1.1.2, ⟨hk.1.1.1.1.2, ⟨hk.1.1.1.2, hk.1.1.2⟩⟩⟩⟩⟩⟩)), (bx_ BK108), (bx_ BK109), (bx_ BK110), (bx_ BK111), (hx_ HB)⟩)
   rintro ⟨v121, v124⟩ w34 ⟨hS_, h0_, h1_, h2_, h3_, h4_, h5_, h6_, h7_, h8_⟩
   have n0_ : Aside0 (Kd.V k42 42 w34 w.heap.size (fun k_ => ((P0_0_ k_ ∨ P1_2_ k_) ∨ w.heap.size ≤ k_) ∧ some k_ ≠ (v121 : Value).ownBlock ∧ some k_ ≠ (v124 : Value).ownBlock ∧ k_ ≠ gb108 ∧ k_ ≠ gb109 ∧ k_ ≠ gb110 ∧ k_ ≠ gb111) (.slice A0_0 l0_0.length c0_0) l0_0) := ⟨h0_⟩
   have n1_ : Aside0 (Kd.N k42 42 w34 w.heap.size (fun k_ => ((P0_0_ k_ ∨ P1_2_ k_) ∨ w.heap.size ≤ k_) ∧ some k_ ≠ (v124 : Value).ownBlock ∧ k_ ≠ gb108 ∧ k_ ≠ gb109 ∧ k_ ≠ gb110 ∧ k_ ≠ gb111) v121 t120) := ⟨h1_⟩
   have n2_ : Aside0 (Kd.N k42 42 w34 w.heap.size (fun k_ => ((P0_0_ k_ ∨ P1_2_ k_) ∨ w.heap.size ≤ k_) ∧ some k_ ≠ (v121 : Value).ownBlock ∧ k_ ≠ gb108 ∧ k_ ≠ gb109 ∧ k_ ≠ gb110 ∧ k_ ≠ gb111) v124 y123) := ⟨h2_⟩
   have n3_ : Aside0 (Kd.V (Kd.int .u64) 28 w34 w.heap.size (fun k_ => ((P0_0_ k_ ∨ P1_2_ k_) ∨ w.heap.size ≤ k_) ∧ some k_ ≠ (v121 : Value).ownBlock ∧ some k_ ≠ (v124 : Value).ownBlock ∧ k_ ≠ gb108 ∧ k_ ≠ gb109 ∧ k_ ≠ gb110 ∧ k_ ≠ gb111) (.slice A1_2 l1_2.length c1_2) l1_2) := ⟨h3_⟩
   have n4_ : Aside0 (w34.heap[gb108]? = some (.cells #[.slice A0_0 l0_0.length c0_0] 26 (0, 0))) := ⟨h4_⟩
   have n5_ : Aside0 (w34.heap[gb109]? = some (.cells #[.int .u64 a1_0, .int .u64 a1_1, .slice A1_2 l1_2.length c1_2, .int .i64 a1_3] 42 (0, 0))) := ⟨h5_⟩
   have n6_ : Aside0 (w34.heap[gb110]? = some (.cells #[.slice none 0 0] 26 (0, 0))) := ⟨h6_⟩
   have n7_ : Aside0 (w34.heap[gb111]? = some (.cells #[.int .i64 0, .string (⟨#[]⟩ : ByteArray), .int .u64 0, .bool false, .bool false] 30 (0, 0))) := ⟨h7_⟩
   have n8_ : Aside0 (Below w.heap.size w w34) := ⟨h8_⟩
   clear HO0_0
   clear HO1_2
   clear BK108
   clear BK109
   clear BK110
   clear BK111
   clear HB
   clear h0_ h1_ h2_ h3_ h4_ h5_ h6_ h7_ h8_
   have HO0_0 := n0_
   have HO122 := n1_
   have HO125 := n2_
   have HO1_2 := n3_
   have BK108 := n4_
   have BK109 := n5_
   have BK110 := n6_
   have BK111 := n7_
   have HB := n8_
   clear n0_ n1_ n2_ n3_ n4_ n5_ n6_ n7_ n8_
   have hHeld : w34.cell? ⟨gb108, 0, none⟩ = some (.slice A0_0 l0_0.length c0_0) ∧ w34.cell? ⟨gb109, 0, none⟩ = some (.int .u64 a1_0) ∧ w34.cell? ⟨gb109, 1, none⟩ = some (.int .u64 a1_1) ∧ w34.cell? ⟨gb109, 2, none⟩ = some (.slice A1_2 l1_2.length c1_2) ∧ w34.cell? ⟨gb109, 3, none⟩ = some (.int .i64 a1_3) := hS_
   obtain ⟨Ao36, co36, eo36⟩ := Kd.N_slice HO125.out
   (first | subst eo36 | (injection eo36 with f1_ f2_ f3_; have f4_ := f1_.symm; have f5_ := f3_.symm; clear f1_ f2_ f3_; subst f4_; subst f5_))
   refine norm_ (a' := ?_) ?_ ?_; rotate_left; (simp only [putAll, Act.put, List.setIfInBounds_toArray, List.set_cons_zero, List.set_cons_succ]; rfl)
   refine one_ (i := 5) (N := some 19) bN8_ rfl rfl (one_of HT_.out (by kernel_rfl)) (by decide) (fun K hK => ?_)
   refine Kd.N_append_rows_step k42 (w0 := w) w.heap.size (by rfl) (.tmp 16) (.tmp 18) 24 42 (.agg #[(.int .u64 0), (.int .u64 0), (.slice none 0 0), (.int .i64 0)]) 48 rfl Try.underlying24 info42 rfl (by decide) (by omega) v121 t120 y123 _ _ _ (fun k_ => ((P0_0_ k_ ∨ P1_2_ k_) ∨ w.heap.size ≤ k_) ∧ k_ ≠ gb108 ∧ k_ ≠ gb109 ∧ k_ ≠ gb110 ∧ k_ ≠ gb111) (fun k_ => ((fun k_ => ((P0_0_ k_ ∨ P1_2_ k_) ∨ w.heap.size ≤ k_) ∧ k_ ≠ gb108 ∧ k_ ≠ gb109 ∧ k_ ≠ gb110 ∧ k_ ≠ gb111)) k_ ∧ some k_ ≠ (v121 : Value).ownBlock) rfl rfl ?aO ?aR (fun _ hk => hk) ?aF ?aB ?aS ?aL ?_
   (case aR => exact (by skip; exact Kd.N_F (Kd.N_mono (ok' := (fun k_ => ((fun k_ => ((P0_0_ k_ ∨ P1_2_ k_) ∨ w.heap.size ≤ k_) ∧ k_ ≠ gb108 ∧ k_ ≠ gb109 ∧ k_ ≠ gb110 ∧ k_ ≠ gb111)) k_ ∧ some k_ ≠ (v121 : Value).ownBlock)) (HO125.out) (fun k_ hk => ⟨⟨hk.1, ⟨hk.2.2.1, ⟨hk.2.2.2.1, ⟨hk.2.2.2.2.1, hk.2.2.2.2.2⟩⟩⟩⟩, hk.2.1⟩))))
   (case aB => exact (hx_ HB))
   (case aF => exact (fun k_ hk => ⟨(.inr (Nat.le_trans (below_size (hx_ HB)) hk)), Kd.freshB (g := gb108) (o := .cells #[.slice A0_0 l0_0.length c0_0] 26 (0, 0)) (bx_ BK108) k_ hk, Kd.freshB (g := gb109) (o := .cells #[.int .u64 a1_0, .int .u64 a1_1, .slice A1_2 l1_2.length c1_2, .int .i64 a1_3] 42 (0, 0)) (bx_ BK109) k_ hk, Kd.freshB (g := gb110) (o := .cells #[.slice none 0 0] 26 (0, 0)) (bx_ BK110) k_ hk, Kd.freshB (g := gb111) (o := .cells #[.int .i64 0, .string (⟨#[]⟩ : ByteArray), .int .u64 0, .bool false, .bool false] 30 (0, 0)) (bx_ BK111) k_ hk⟩))
   (case aO => exact (by (with_reducible repeat (first | apply Kd.N_alloc | apply Kd.N_drewN | apply Kd.N_drew)); exact Kd.N_mono HO122.out (fun _ hk => ⟨hk.1, ⟨hk.2.2.1, ⟨hk.2.2.2.1, ⟨hk.2.2.2.2.1, hk.2.2.2.2.2⟩⟩⟩⟩)))
   (case aS => exact (below_size (hx_ HB)))
   (case aL => have := LMc21.out; omega)
   intro v127 w35 ho hb hg hat
   rw [← Ny126.out] at ho
   have n0_ := am_ (Kd.V_afterv (ok := (fun k_ => ((P0_0_ k_ ∨ P1_2_ k_) ∨ w.heap.size ≤ k_) ∧ some k_ ≠ (.slice Ao36 y123.length co36 : Value).ownBlock ∧ k_ ≠ gb108 ∧ k_ ≠ gb109 ∧ k_ ≠ gb110 ∧ k_ ≠ gb111)) (by (with_reducible repeat (first | apply Kd.V_alloc | apply Kd.V_drewN | apply Kd.V_drew)); exact Kd.V_mono HO0_0.out (fun _ hk => ⟨⟨hk.1, ⟨hk.2.2.1, ⟨hk.2.2.2.1, ⟨hk.2.2.2.2.1, ⟨hk.2.2.2.2.2.1, hk.2.2.2.2.2.2⟩⟩⟩⟩⟩, hk.2.1⟩)) hg hat)
   have n1_ := am_ (Kd.V_afterv (ok := (fun k_ => ((P0_0_ k_ ∨ P1_2_ k_) ∨ w.heap.size ≤ k_) ∧ some k_ ≠ (.slice Ao36 y123.length co36 : Value).ownBlock ∧ k_ ≠ gb108 ∧ k_ ≠ gb109 ∧ k_ ≠ gb110 ∧ k_ ≠ gb111)) (by (with_reducible repeat (first | apply Kd.V_alloc | apply Kd.V_drewN | apply Kd.V_drew)); exact Kd.V_mono HO1_2.out (fun _ hk => ⟨⟨hk.1, ⟨hk.2.2.1, ⟨hk.2.2.2.1, ⟨hk.2.2.2.2.1, ⟨hk.2.2.2.2.2.1, hk.2.2.2.2.2.2⟩⟩⟩⟩⟩, hk.2.1⟩)) hg hat)
   have n2_ := am_ (blk_grown (g := gb108) (o := .cells #[.slice A0_0 l0_0.length c0_0] 26 (0, 0)) (bx_ BK108) hg (Kd.N_ne HO122.out BK108.out (by decide)))
   have n3_ := am_ (blk_grown (g := gb109) (o := .cells #[.int .u64 a1_0, .int .u64 a1_1, .slice A1_2 l1_2.length c1_2, .int .i64 a1_3] 42 (0, 0)) (bx_ BK109) hg (Kd.N_away HO122.out (fun _ hk => hk.2.2.2.1)))
   have n4_ := am_ (blk_grown (g := gb110) (o := .cells #[.slice none 0 0] 26 (0, 0)) (bx_ BK110) hg (Kd.N_ne HO122.out BK110.out (by decide)))
   have n5_ := am_ (blk_grown (g := gb111) (o := .cells #[.int .i64 0, .string (⟨#[]⟩ : ByteArray), .int .u64 0, .bool false, .bool false] 30 (0, 0)) (bx_ BK111) hg (Kd.N_ne HO122.out BK111.out (by decide)))
   have n6_ := am_ (Kd.N_afterv (ok := (fun k_ => ((P0_0_ k_ ∨ P1_2_ k_) ∨ w.heap.size ≤ k_) ∧ k_ ≠ gb108 ∧ k_ ≠ gb109 ∧ k_ ≠ gb110 ∧ k_ ≠ gb111)) (by (with_reducible repeat (first | apply Kd.N_alloc | apply Kd.N_drewN | apply Kd.N_drew)); exact Kd.N_mono HO125.out (fun _ hk => ⟨⟨hk.1, ⟨hk.2.2.1, ⟨hk.2.2.2.1, ⟨hk.2.2.2.2.1, hk.2.2.2.2.2⟩⟩⟩⟩, hk.2.1⟩)) hg hat)
   have n7_ := am_ (hb)
   have n8_ := am_ (ho)
   clear HO0_0
   clear HO1_2
   clear BK108
   clear BK109
   clear BK110
   clear BK111
   clear HO125
   clear HB
   clear HO122
   have HO0_0 := n0_
   have HO1_2 := n1_
   have BK108 := n2_
   have BK109 := n3_
   have BK110 := n4_
   have BK111 := n5_
   have HO125 := n6_
   have HB := n7_
   have HO128 := n8_
   clear n0_ n1_ n2_ n3_ n4_ n5_ n6_ n7_ n8_
   clear ho hb hg hat
   obtain ⟨Ao37, co37, eo37⟩ := Kd.N_slice HO128.out
   (first | subst eo37 | (injection eo37 with f1_ f2_ f3_; have f4_ := f1_.symm; have f5_ := f3_.symm; clear f1_ f2_ f3_; subst f4_; subst f5_))
   refine hK.out _ _ ⟨(blk_cell BK108.out 0).trans rfl, (blk_cell BK109.out 0).trans rfl, (blk_cell BK109.out 1).trans rfl, (blk_cell BK109.out 2).trans rfl, (blk_cell BK109.out 3).trans rfl⟩ (fun hHeld => ?_)
   clear hK K
   refine norm_ (a' := ?_) ?_ ?_
   rotate_left
   ·show Act.put _ (some 19) _ = _
    simp only [Act.put, List.setIfInBounds_toArray, List.set_cons_zero, List.set_cons_succ, i64_w, i32_w]
    rfl
   refine pure_ (i := 6) (N := some 20) (v := ?_) (a' := ?_) bN9_ rfl rfl (any_of HT_.out (by kernel_rfl)) (fun _ _ _ h => h) (Or.inl ⟨by rfl, ?_⟩) ?_ ?_; rotate_left; (intro w'; go_simp; with_reducible rfl); rotate_left; (simp only [Act.put, List.setIfInBounds_toArray, List.set_cons_zero, List.set_cons_succ, i64_w, i32_w]; rfl)
   refine one_ (i := 8) (N := none) bN10_ rfl rfl (one_of HT_.out (by kernel_rfl)) (by decide) (fun K hK => ?_)
   have hs38 : w35.cell? ⟨gb110, 0, none⟩ = some (.slice none 0 0) := (blk_cell BK110.out 0).trans rfl
   have hfs38 := blk_frozen BK110.out 0
   have hns38_0 := NB108_110.out
   have hns38_1 := NB109_110.out
   have hns38_3 := NB111_110.out
   have hms38_0 := NB110_108.out
   have hms38_1 := NB110_109.out
   have hms38_3 := NB110_111.out
   refine skip_ (w1 := ?_) (by rfl) rfl ?_ ?_
   rotate_left
   ·go_simp
    rfl
   refine hK.out _ _ ⟨((cell_far (p := ⟨gb110, _, none⟩) NB108_110.out _).trans (hHeld.1)), ((cell_far (p := ⟨gb110, _, none⟩) NB109_110.out _).trans (hHeld.2.1)), ((cell_far (p := ⟨gb110, _, none⟩) NB109_110.out _).trans (hHeld.2.2.1)), ((cell_far (p := ⟨gb110, _, none⟩) NB109_110.out _).trans (hHeld.2.2.2.1)), ((cell_far (p := ⟨gb110, _, none⟩) NB109_110.out _).trans (hHeld.2.2.2.2))⟩ (fun hHeld => ?_)
   clear hK K
   refine one_ (i := 9) (N := none) bN11_ rfl rfl (one_of HT_.out (by kernel_rfl)) (by decide) (fun K hK => ?_)
   have hs39 : w35.cell? ⟨gb111, 0, none⟩ = some (.int .i64 0) := (blk_cell BK111.out 0).trans rfl
   have hfs39 := blk_frozen BK111.out 0
   have hns39_0 := NB108_111.out
   have hns39_1 := NB109_111.out
   have hns39_2 := NB110_111.out
   have hms39_0 := NB111_108.out
   have hms39_1 := NB111_109.out
   have hms39_2 := NB111_110.out
   have hs40 : w35.cell? ⟨gb111, 1, none⟩ = some (.string (⟨#[]⟩ : ByteArray)) := (blk_cell BK111.out 1).trans rfl
   have hfs40 := blk_frozen BK111.out 1
   have hns40_0 := NB108_111.out
   have hns40_1 := NB109_111.out
   have hns40_2 := NB110_111.out
   have hms40_0 := NB111_108.out
   have hms40_1 := NB111_109.out
   have hms40_2 := NB111_110.out
   have hs41 : w35.cell? ⟨gb111, 2, none⟩ = some (.int .u64 0) := (blk_cell BK111.out 2).trans rfl
   have hfs41 := blk_frozen BK111.out 2
   have hns41_0 := NB108_111.out
   have hns41_1 := NB109_111.out
   have hns41_2 := NB110_111.out
   have hms41_0 := NB111_108.out
   have hms41_1 := NB111_109.out
   have hms41_2 := NB111_110.out
   have hs42 : w35.cell? ⟨gb111, 3, none⟩ = some (.bool false) := (blk_cell BK111.out 3).trans rfl
   have hfs42 := blk_frozen BK111.out 3
   have hns42_0 := NB108_111.out
   have hns42_1 := NB109_111.out
   have hns42_2 := NB110_111.out
   have hms42_0 := NB111_108.out
   have hms42_1 := NB111_109.out
   have hms42_2 := NB111_110.out
   have hs43 : w35.cell? ⟨gb111, 4, none⟩ = some (.bool false) := (blk_cell BK111.out 4).trans rfl
   have hfs43 := blk_frozen BK111.out 4
   have hns43_0 := NB108_111.out
   have hns43_1 := NB109_111.out
   have hns43_2 := NB110_111.out
   have hms43_0 := NB111_108.out
   have hms43_1 := NB111_109.out
   have hms43_2 := NB111_110.out
   refine skip_ (w1 := ?_) (by rfl) rfl ?_ ?_
   rotate_left
   ·go_simp
    rfl
   refine hK.out _ _ ⟨((cell_far (p := ⟨gb111, _, none⟩) NB108_111.out _).trans (((cell_far (p := ⟨gb111, _, none⟩) NB108_111.out _).trans (((cell_far (p := ⟨gb111, _, none⟩) NB108_111.out _).trans (((cell_far (p := ⟨gb111, _, none⟩) NB108_111.out _).trans (((cell_far (p := ⟨gb111, _, none⟩) NB108_111.out _).trans (hHeld.1)))))))))), ((cell_far (p := ⟨gb111, _, none⟩) NB109_111.out _).trans (((cell_far (p := ⟨gb111, _, none⟩) NB109_111.out _).trans (((cell_far (p := ⟨gb111, _, none⟩) NB109_111.out _).trans (((cell_far (p := ⟨gb111, _, none⟩) NB109_111.out _).trans (((cell_far (p := ⟨gb111, _, none⟩) NB109_111.out _).trans (hHeld.2.1)))))))))), ((cell_far (p := ⟨gb111, _, none⟩) NB109_111.out _).trans (((cell_far (p := ⟨gb111, _, none⟩) NB109_111.out _).trans (((cell_far (p := ⟨gb111, _, none⟩) NB109_111.out _).trans (((cell_far (p := ⟨gb111, _, none⟩) NB109_111.out _).trans (((cell_far (p := ⟨gb111, _, none⟩) NB109_111.out _).trans (hHeld.2.2.1)))))))))), ((cell_far (p := ⟨gb111, _, none⟩) NB109_111.out _).trans (((cell_far (p := ⟨gb111, _, none⟩) NB109_111.out _).trans (((cell_far (p := ⟨gb111, _, none⟩) NB109_111.out _).trans (((cell_far (p := ⟨gb111, _, none⟩) NB109_111.out _).trans (((cell_far (p := ⟨gb111, _, none⟩) NB109_111.out _).trans (hHeld.2.2.2.1)))))))))), ((cell_far (p := ⟨gb111, _, none⟩) NB109_111.out _).trans (((cell_far (p := ⟨gb111, _, none⟩) NB109_111.out _).trans (((cell_far (p := ⟨gb111, _, none⟩) NB109_111.out _).trans (((cell_far (p := ⟨gb111, _, none⟩) NB109_111.out _).trans (((cell_far (p := ⟨gb111, _, none⟩) NB109_111.out _).trans (hHeld.2.2.2.2))))))))))⟩ (fun hHeld => ?_)
   clear hK K
   refine done_ (done_of HT_.out (by kernel_rfl)) ?_
   try go_wp2
   refine bodyPost_ret (results_cc rfl _ _ gb110 gb111 26 30 #[.slice Ao37 y126.length co37] #[.int .i64 0, .string (⟨#[]⟩ : ByteArray), .int .u64 0, .bool false, .bool false] (0, 0) (0, 0) _ _ rfl (by (with_reducible repeat (first | refine blk_drewN ?_ _ | refine blk_drew ?_ | refine blk_alloc ?_ _)); refine blk_far ?_ NB110_111.out _; (with_reducible repeat (first | refine blk_drewN ?_ _ | refine blk_drew ?_ | refine blk_alloc ?_ _)); refine blk_far ?_ NB110_111.out _; (with_reducible repeat (first | refine blk_drewN ?_ _ | refine blk_drew ?_ | refine blk_alloc ?_ _)); refine blk_far ?_ NB110_111.out _; (with_reducible repeat (first | refine blk_drewN ?_ _ | refine blk_drew ?_ | refine blk_alloc ?_ _)); refine blk_far ?_ NB110_111.out _; (with_reducible repeat (first | refine blk_drewN ?_ _ | refine blk_drew ?_ | refine blk_alloc ?_ _)); refine blk_far ?_ NB110_111.out _; (with_reducible repeat (first | refine blk_drewN ?_ _ | refine blk_drew ?_ | refine blk_alloc ?_ _)); refine blk_put (cs := #[.slice none 0 0]) ?_ 0 _ rfl; (with_reducible repeat (first | refine blk_drewN ?_ _ | refine blk_drew ?_ | refine blk_alloc ?_ _)); exact BK110.out) Try.underlying26 rfl (by kernel_rfl) rfl (by (with_reducible repeat (first | refine blk_drewN ?_ _ | refine blk_drew ?_ | refine blk_alloc ?_ _)); refine blk_put (cs := #[.int .i64 0, .string (⟨#[]⟩ : ByteArray), .int .u64 0, .bool false, .bool false]) ?_ 4 _ rfl; (with_reducible repeat (first | refine blk_drewN ?_ _ | refine blk_drew ?_ | refine blk_alloc ?_ _)); refine blk_put (cs := #[.int .i64 0, .string (⟨#[]⟩ : ByteArray), .int .u64 0, .bool false, .bool false]) ?_ 3 _ rfl; (with_reducible repeat (first | refine blk_drewN ?_ _ | refine blk_drew ?_ | refine blk_alloc ?_ _)); refine blk_put (cs := #[.int .i64 0, .string (⟨#[]⟩ : ByteArray), .int .u64 0, .bool false, .bool false]) ?_ 2 _ rfl; (with_reducible repeat (first | refine blk_drewN ?_ _ | refine blk_drew ?_ | refine blk_alloc ?_ _)); refine blk_put (cs := #[.int .i64 0, .string (⟨#[]⟩ : ByteArray), .int .u64 0, .bool false, .bool false]) ?_ 1 _ rfl; (with_reducible repeat (first | refine blk_drewN ?_ _ | refine blk_drew ?_ | refine blk_alloc ?_ _)); refine blk_put (cs := #[.int .i64 0, .string (⟨#[]⟩ : ByteArray), .int .u64 0, .bool false, .bool false]) ?_ 0 _ rfl; (with_reducible repeat (first | refine blk_drewN ?_ _ | refine blk_drew ?_ | refine blk_alloc ?_ _)); refine blk_far ?_ NB111_110.out _; (with_reducible repeat (first | refine blk_drewN ?_ _ | refine blk_drew ?_ | refine blk_alloc ?_ _)); exact BK111.out) Try.underlying30 rfl (by kernel_rfl)) rfl ?_
   exact ⟨_, by first | rfl | (simp [errW_none, errW_some] <;> rfl) | (simp [*, errW_none, errW_some] <;> rfl), Kd.N_V (by (with_reducible repeat (first | apply Kd.N_alloc | apply Kd.N_drewN | apply Kd.N_drew)); exact Kd.N_mono (Kd.N_far (p := ⟨gb111, 4, none⟩) (Kd.N_far (p := ⟨gb111, 3, none⟩) (Kd.N_far (p := ⟨gb111, 2, none⟩) (Kd.N_far (p := ⟨gb111, 1, none⟩) (Kd.N_far (p := ⟨gb111, 0, none⟩) (Kd.N_far (p := ⟨gb110, 0, none⟩) (Kd.N_mono (Kd.N_mono HO128.out (fun k_ hk => (⟨hk, hk.2.2.2.1⟩ : _ ∧ k_ ≠ gb110))) (fun k_ hk => (⟨hk, hk.1.2.2.2.2⟩ : _ ∧ k_ ≠ gb111))) (fun _ hk => hk.1.2) (.slice Ao37 y126.length co37)) (fun _ hk => hk.2) (.int .i64 0)) (fun _ hk => hk.2) (.string (⟨#[]⟩ : ByteArray))) (fun _ hk => hk.2) (.int .u64 0)) (fun _ hk => hk.2) (.bool false)) (fun _ hk => hk.2) (.bool false)) (fun _ hk => hk.1.1.1)), hx_ HB⟩
  ·rw [if_neg c21] at H
   exact absurd H (by simp)

end Go.Proofs.Ytdlkpejlkijgcaa.Pr
