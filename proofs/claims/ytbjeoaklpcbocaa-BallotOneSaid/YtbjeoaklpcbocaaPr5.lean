/- What the program's functions compute, and that they compute it: printed out of the translation by a program of this session's (px.py, over the kit's printer). Conditions: none. -/
import Derived.Test.YtbjeoaklpcbocaaPr0
import Derived.Test.YtbjeoaklpcbocaaPr3
import Derived.Test.YtbjeoaklpcbocaaPr4
import Derived.Test.YtbjeoaklpcbocaaHandAnswer
import Derived.Test.YtbjeoaklpcbocaaHandShown
import Derived.Test.YtbjeoaklpcbocaaOneD
namespace Go.Proofs.Ytbjeoaklpcbocaa.Pr
open Go.RowKit Go.Proofs.YtbjeoaklpcbocaaW.PrintWords Go.Proofs.YtbjeoaklpcbocaaW.PrintLast Go.Proofs.YtbjeoaklpcbocaaW.PrintMore
attribute [local go_sem] max2_int min2_int max_two min_two max_three min_three max_four min_four   -- for this text's walks alone
set_option linter.unusedVariables false
set_option linter.unusedSimpArgs false

def ferrulelaw07_BallotOne.T25 : Bool × List (List Nat × List Nat) := (true, [([], []), ([], []), ([0, 1], [0, 1]), ([2], [2]), ([], []), ([], []), ([4, 5], [4, 5]), ([6], [6]), ([3, 7], [3, 7]), ([8], [8]), ([9], [9]), ([9], [9]), ([], []), ([12, 10, 8, 0, 1, 2, 3, 4, 5, 6, 7, 8, 9, 10, 12], [10, 12]), ([11, 13, 0, 1, 2, 3, 4, 5, 6, 7, 8, 9, 10, 11, 12, 13], [11])])
def ferrulelaw07_BallotOne.B25 : List Nat := [0, 0, 3, 7, 0, 0, 48, 112, 255, 511, 1023, 1023, 0, 6143, 16383]
theorem ferrulelaw07_BallotOne.tab25 : rtab .any (opsOf Try.f5 25) = ferrulelaw07_BallotOne.T25 := by kernel_rfl
theorem ferrulelaw07_BallotOne.bits25 : waitsOk ferrulelaw07_BallotOne.T25.2 ferrulelaw07_BallotOne.B25 = true := by kernel_rfl
def ferrulelaw07_BallotOne.T28 : Bool × List (List Nat × List Nat) := (true, [([], []), ([], []), ([], []), ([], []), ([], []), ([3, 4], [3, 4]), ([5], [5]), ([2, 6], [2, 6]), ([], []), ([8], [8]), ([], []), ([9, 10], [9, 10]), ([11], [11]), ([12], [12]), ([7, 13, 7], [7, 13]), ([0, 1, 0, 1, 2, 3, 4, 5, 6, 7, 8, 9, 10, 11, 12, 13, 14], [0, 1]), ([15, 14, 14, 0, 1, 2, 3, 4, 5, 6, 7, 8, 9, 10, 11, 12, 13, 14], [14, 15])])
def ferrulelaw07_BallotOne.B28 : List Nat := [0, 0, 0, 0, 0, 24, 56, 124, 0, 256, 0, 1792, 3840, 7936, 16380, 32767, 65535]
theorem ferrulelaw07_BallotOne.tab28 : rtab .any (opsOf Try.f5 28) = ferrulelaw07_BallotOne.T28 := by kernel_rfl
theorem ferrulelaw07_BallotOne.bits28 : waitsOk ferrulelaw07_BallotOne.T28.2 ferrulelaw07_BallotOne.B28 = true := by kernel_rfl
def ferrulelaw07_BallotOne.T37 : Bool × List (List Nat × List Nat) := (true, [([], []), ([0], [0]), ([1], [1]), ([1, 2], [1, 2]), ([3, 1], [3]), ([4], [4]), ([4], [4]), ([5, 6, 4], [4, 5, 6]), ([7, 4], [4, 7]), ([8, 4], [4, 8]), ([4], [4]), ([4], [4]), ([10, 11, 4], [4, 10, 11]), ([12, 4], [4, 12]), ([13, 4], [4, 13]), ([9, 14, 4], [4, 9, 14]), ([4, 15], [4, 15])])
def ferrulelaw07_BallotOne.B37 : List Nat := [0, 1, 3, 7, 15, 31, 31, 127, 255, 511, 31, 31, 3103, 7199, 15391, 32767, 65535]
theorem ferrulelaw07_BallotOne.tab37 : rtab .any (opsOf Try.f5 37) = ferrulelaw07_BallotOne.T37 := by kernel_rfl
theorem ferrulelaw07_BallotOne.bits37 : waitsOk ferrulelaw07_BallotOne.T37.2 ferrulelaw07_BallotOne.B37 = true := by kernel_rfl
namespace Sh5
theorem am_ {p : Prop} (h : p) : Aside0 p := ⟨h⟩
theorem bx_ {Q P : Prop} (b : Aside0 Q) (h : Q → P := by intro hq_; (with_reducible repeat (first | refine blk_drewN ?_ _ | refine blk_drew ?_ | refine blk_alloc ?_ _)); exact hq_) : P := h b.out
theorem hx_ {Q P : Prop} (b : Aside0 Q) (h : Q → P := by intro hq_; repeat (first | (with_reducible first | exact hq_ | apply below_alloc | apply pw_below_drewN | apply below_drew1 | refine below_set ?_ (Aside0.out (by assumption))) | exact hq_)) : P := h b.out
theorem fz_ {Q G P : Prop} (q : Q) (g : Aside0 G) (h : Q → G → P := by intro q_ g_; first | exact Nat.ne_of_lt (Nat.lt_of_lt_of_le (by have := World.block_lt_of_cell? _ _ q_; first | rwa [add_block] at this | exact this) g_) | (rw [add_block]; exact Nat.ne_of_lt (Nat.lt_of_lt_of_le (by have := World.block_lt_of_cell? _ _ q_; first | rwa [add_block] at this | exact this) g_)) | (show (Addr.add _ _).block ≠ _; rw [add_block]; exact Nat.ne_of_lt (Nat.lt_of_lt_of_le (by have := World.block_lt_of_cell? _ _ q_; first | rwa [add_block] at this | exact this) g_)) | (dsimp only; exact Nat.ne_of_lt (Nat.lt_of_lt_of_le (by have := World.block_lt_of_cell? _ _ q_; first | rwa [add_block] at this | exact this) g_))) : P := h q g.out
theorem vx_ {Q P : Prop} (b : Aside0 Q) (h : Q → P := by intro hq_; (with_reducible repeat (first | apply Kd.V_alloc | apply Kd.V_drewN | apply Kd.V_drew)); exact hq_) : P := h b.out
theorem rx_ {Q P : Prop} (b : Aside0 Q) (h : Q → P := by intro hq_; (with_reducible repeat (first | apply Kd.R_alloc | apply Kd.R_drewN | apply Kd.R_drew)); exact hq_) : P := h b.out
theorem nx_ {Q P : Prop} (b : Aside0 Q) (h : Q → P := by intro hq_; (with_reducible repeat (first | apply Kd.N_alloc | apply Kd.N_drewN | apply Kd.N_drew)); exact hq_) : P := h b.out
abbrev bN0_ : Array Bool := #[false, false, false, false, false, false, false, false, false, false, false, false, false, false, false]
abbrev bN1_ : Array Bool := #[true, false, false, false, false, false, false, false, false, false, false, false, false, false, false]
abbrev bN2_ : Array Bool := #[true, true, false, false, false, false, false, false, false, false, false, false, false, false, false]
abbrev bN3_ : Array Bool := #[true, true, true, false, false, false, false, false, false, false, false, false, false, false, false]
abbrev bN4_ : Array Bool := #[true, true, true, false, true, false, false, false, false, false, false, false, false, false, false]
abbrev bN5_ : Array Bool := #[true, true, true, false, true, true, false, false, false, false, false, false, false, false, false]
abbrev bN6_ : Array Bool := #[true, true, true, false, true, true, true, false, false, false, false, false, false, false, false]
abbrev bN7_ : Array Bool := #[true, true, true, true, true, true, true, false, false, false, false, false, false, false, false]
abbrev bN8_ : Array Bool := #[true, true, true, true, true, true, true, true, false, false, false, false, false, false, false]
abbrev bN9_ : Array Bool := #[true, true, true, true, true, true, true, true, true, true, true, true, true, false, false]
abbrev bN10_ : Array Bool := #[true, true, true, true, true, true, true, true, true, false, false, false, false, false, false]
abbrev bN11_ : Array Bool := #[true, true, true, true, true, true, true, true, false, false, false, false, true, false, false]
abbrev bN12_ : Array Bool := #[true, true, true, true, true, true, true, true, true, true, false, false, false, false, false]
abbrev bN13_ : Array Bool := #[true, true, true, true, true, true, true, true, true, true, true, false, false, false, false]
abbrev bN14_ : Array Bool := #[true, true, true, true, true, true, true, true, true, true, true, true, false, false, false]
abbrev bN15_ : Array Bool := #[true, true, true, true, true, true, true, true, true, false, false, false, true, false, false]
abbrev bN16_ : Array Bool := #[true, true, true, true, true, true, true, true, true, true, false, false, true, false, false]
abbrev bN17_ : Array Bool := #[true, true, true, true, true, true, true, true, true, true, true, false, true, false, false]
abbrev bN18_ : Array Bool := #[true, true, true, true, true, true, true, true, true, true, true, true, true, true, false]
abbrev bN19_ : Array Bool := #[true, true, true, true, true, true, true, true, true, true, true, true, true, true, true]
abbrev bN20_ : Array Bool := #[false, false, false, false, false, false, false, false, false, false, false, false, false, false, false, false, false]
abbrev bN21_ : Array Bool := #[true, false, false, false, false, false, false, false, false, false, false, false, false, false, false, false, false]
abbrev bN22_ : Array Bool := #[true, true, false, false, false, false, false, false, false, false, false, false, false, false, false, false, false]
abbrev bN23_ : Array Bool := #[true, true, false, true, false, false, false, false, false, false, false, false, false, false, false, false, false]
abbrev bN24_ : Array Bool := #[true, true, false, true, true, false, false, false, false, false, false, false, false, false, false, false, false]
abbrev bN25_ : Array Bool := #[true, true, false, true, true, true, false, false, false, false, false, false, false, false, false, false, false]
abbrev bN26_ : Array Bool := #[true, true, false, true, true, true, false, false, true, false, false, false, false, false, false, false, false]
abbrev bN27_ : Array Bool := #[true, true, false, true, true, true, false, false, true, false, true, false, false, false, false, false, false]
abbrev bN28_ : Array Bool := #[true, true, false, true, true, true, true, false, true, false, true, false, false, false, false, false, false]
abbrev bN29_ : Array Bool := #[true, true, false, true, true, true, true, false, true, true, true, false, false, false, false, false, false]
abbrev bN30_ : Array Bool := #[true, true, false, true, true, true, true, false, true, true, true, true, false, false, false, false, false]
abbrev bN31_ : Array Bool := #[true, true, false, true, true, true, true, false, true, true, true, true, true, false, false, false, false]
abbrev bN32_ : Array Bool := #[true, true, true, true, true, true, true, true, true, true, true, true, true, true, false, false, false]
abbrev bN33_ : Array Bool := #[true, true, true, true, true, true, true, false, true, true, true, true, true, false, false, false, false]
abbrev bN34_ : Array Bool := #[true, true, false, true, true, true, true, false, true, true, true, true, true, true, false, false, false]
abbrev bN35_ : Array Bool := #[true, true, true, true, true, true, true, true, true, true, true, true, true, false, false, false, false]
abbrev bN36_ : Array Bool := #[true, true, true, true, true, true, true, false, true, true, true, true, true, true, false, false, false]
abbrev bN37_ : Array Bool := #[true, true, true, true, true, true, true, true, true, true, true, true, true, true, true, false, false]
abbrev bN38_ : Array Bool := #[true, true, true, true, true, true, true, true, true, true, true, true, true, true, true, true, false]
abbrev bN39_ : Array Bool := #[true, true, true, true, true, true, true, true, true, true, true, true, true, true, true, true, true]
abbrev bN40_ : Array Bool := #[false, false, false, false, false, false, false]
abbrev bN41_ : Array Bool := #[false, true, false, false, false, false, false]
abbrev bN42_ : Array Bool := #[false, true, true, false, false, false, false]
abbrev bN43_ : Array Bool := #[false, true, true, true, false, false, false]
abbrev bN44_ : Array Bool := #[true, true, true, true, false, false, false]
abbrev bN45_ : Array Bool := #[true, true, true, true, true, false, false]
abbrev bN46_ : Array Bool := #[true, true, true, true, true, true, false]
abbrev bN47_ : Array Bool := #[true, true, true, true, true, true, true]
abbrev bN48_ : Array Bool := #[true, true, true, false, false, false, false, false, false, false, false, false, false, false, false, false, false]
abbrev bN49_ : Array Bool := #[true, true, true, true, false, false, false, false, false, false, false, false, false, false, false, false, false]
abbrev bN50_ : Array Bool := #[true, true, true, true, true, false, false, false, false, false, false, false, false, false, false, false, false]
abbrev bN51_ : Array Bool := #[true, true, true, true, true, true, false, false, false, false, false, false, false, false, false, false, false]
abbrev bN52_ : Array Bool := #[true, true, true, true, true, true, true, false, false, false, false, false, false, false, false, false, false]
abbrev bN53_ : Array Bool := #[true, true, true, true, true, true, true, true, false, false, false, false, false, false, false, false, false]
abbrev bN54_ : Array Bool := #[true, true, true, true, true, true, true, true, true, false, false, false, false, false, false, false, false]
abbrev bN55_ : Array Bool := #[true, true, true, true, true, true, true, true, true, false, true, false, false, false, false, false, false]
abbrev bN56_ : Array Bool := #[true, true, true, true, true, true, true, true, true, false, true, true, false, false, false, false, false]
abbrev bN57_ : Array Bool := #[true, true, true, true, true, true, true, true, true, false, true, true, true, false, false, false, false]
abbrev bN58_ : Array Bool := #[true, true, true, true, true, true, true, true, true, false, true, true, true, true, false, false, false]
abbrev bN59_ : Array Bool := #[true, true, true, true, true, true, true, true, true, true, false, false, false, false, false, false, false]
abbrev bN60_ : Array Bool := #[true, true, true, true, true, true, true, true, true, true, true, false, false, false, false, false, false]
abbrev bN61_ : Array Bool := #[true, true, true, true, true, true, true, true, true, true, true, true, false, false, false, false, false]
end Sh5
open Sh5
set_option maxHeartbeats 8000000 in
set_option maxRecDepth 100000 in
theorem ferrulelaw07_BallotOne.calls (k : Nat) (A0_0 : Option Addr) (c0_0 : Nat) (l0_0 : List Int) (A0_1 : Option Addr) (c0_1 : Nat) (l0_1 : List Int) (A0_2 : Option Addr) (c0_2 : Nat) (l0_2 : List (S26)) (A0_3 : Option Addr) (c0_3 : Nat) (l0_3 : List Int) (a0_4 : Int) (r : Bool) (w : World) (hr0_0 : Kd.C (Kd.int .u64) w A0_0 l0_0.length l0_0) (hc0_0 : l0_0.length ≤ c0_0) (hr0_1 : Kd.C (Kd.int .u64) w A0_1 l0_1.length l0_1) (hc0_1 : l0_1.length ≤ c0_1) (hr0_2 : Kd.C k26 w A0_2 l0_2.length l0_2) (hc0_2 : l0_2.length ≤ c0_2) (hr0_3 : Kd.C (Kd.int .i64) w A0_3 l0_3.length l0_3) (hc0_3 : l0_3.length ≤ c0_3) (h : ferrulelaw07_BallotOne.f k l0_0 l0_1 l0_2 l0_3 a0_4 = some r) :
  Calls Try.prog 5 #[.agg #[.slice A0_0 l0_0.length c0_0, .slice A0_1 l0_1.length c0_1, .slice A0_2 l0_2.length c0_2, .slice A0_3 l0_3.length c0_3, .int .u64 a0_4]] w fun e w' => e = .returned (.bool r) ∧ Below w.heap.size w w' := by
 have hu38 := Try.underlying38
 have hu35 := Try.underlying35
 have hu24 := Try.underlying24
 have hu26 := Try.underlying26
 have HR0_0 := am_ hr0_0
 have HC0_0 := am_ hc0_0
 clear hr0_0 hc0_0
 have HR0_1 := am_ hr0_1
 have HC0_1 := am_ hc0_1
 clear hr0_1 hc0_1
 have HR0_2 := am_ hr0_2
 have HC0_2 := am_ hc0_2
 clear hr0_2 hc0_2
 have HR0_3 := am_ hr0_3
 have HC0_3 := am_ hc0_3
 clear hr0_3 hc0_3
 have HB := am_ (Below.refl w.heap.size w)
 have H : ((ferrulelaw07_shown.f).bind fun t119 => ((ferruleref06_May.f k l0_0 l0_1).bind fun t120 => (if t120 = true then (ferrulelaw07_BallotOne.l0 k l0_2 l0_3 a0_4 t119 ([] : List (S24)) 0 l0_0 l0_1) else (some t119)))) = some r := h
 clear h
 replace H := Option.bind_eq_some_iff.mp H
 obtain ⟨t119, A20, H⟩ := H
 replace H : ((ferruleref06_May.f k l0_0 l0_1).bind fun t120 => (if t120 = true then (ferrulelaw07_BallotOne.l0 k l0_2 l0_3 a0_4 t119 ([] : List (S24)) 0 l0_0 l0_1) else (some t119))) = some r := H
 have A2 := am_ A20
 clear A20
 replace H := Option.bind_eq_some_iff.mp H
 obtain ⟨t120, A30, H⟩ := H
 replace H : (if t120 = true then (ferrulelaw07_BallotOne.l0 k l0_2 l0_3 a0_4 t119 ([] : List (S24)) 0 l0_0 l0_1) else (some t119)) = some r := H
 have A3 := am_ A30
 clear A30
 by_cases c4 : t120 = true
 ·subst c4
  have H1 : (ferrulelaw07_BallotOne.l0 k l0_2 l0_3 a0_4 t119 ([] : List (S24)) 0 l0_0 l0_1) = some r := by rw [if_pos rfl] at H; exact H
  clear H
  have H := H1
  clear H1
  have H' := am_ H
  clear H
  go_enter Try.func5, Try.ntmps5
  go_wp2_with (first | ((with_reducible refine gate_dst (N := 1) rfl ?_); (try (refine gate_guard (by rfl) ?_; dsimp only)); refine box_event ?hg (N := 1) ?hd (cs := #[.slice A0_0 l0_0.length c0_0, .slice A0_1 l0_1.length c0_1, .slice A0_2 l0_2.length c0_2, .slice A0_3 l0_3.length c0_3, .int .u64 a0_4]) (t := 38) ?hr ?_; (case hd => rfl); (case hg => rfl); (case hr => first | (go_simp; done) | (go_simp; rfl)); intro gb117 hg w5 hbox hb; have n0_ := am_ (below_step (hx_ HB) hb); have n1_ := am_ (hbox); have n2_ := am_ ((by rw [hg]; exact (below_size (hx_ HB)) : w.heap.size ≤ gb117)); have n3_ := am_ ((by rw [hg]; exact (below_size (hx_ HB)) : w.heap.size ≤ gb117)); clear HB; have HB := n0_; have BK117 := n1_; have GW117 := n2_; have GE117 := n3_; clear n0_ n1_ n2_ n3_; clear hb hbox hg; have hcz6_0 : w5.cell? ⟨gb117, 0, none⟩ = some (.slice A0_0 l0_0.length c0_0) := (blk_cell BK117.out 0).trans rfl; have hcz6_1 : w5.cell? ⟨gb117, 1, none⟩ = some (.slice A0_1 l0_1.length c0_1) := (blk_cell BK117.out 1).trans rfl; have hcz6_2 : w5.cell? ⟨gb117, 2, none⟩ = some (.slice A0_2 l0_2.length c0_2) := (blk_cell BK117.out 2).trans rfl; have hcz6_3 : w5.cell? ⟨gb117, 3, none⟩ = some (.slice A0_3 l0_3.length c0_3) := (blk_cell BK117.out 3).trans rfl; have hcz6_4 : w5.cell? ⟨gb117, 4, none⟩ = some (.int .u64 a0_4) := (blk_cell BK117.out 4).trans rfl; have hfz6_0 := blk_frozen BK117.out 0; have hfz6_1 := blk_frozen BK117.out 1; have hfz6_2 := blk_frozen BK117.out 2; have hfz6_3 := blk_frozen BK117.out 3; have hfz6_4 := blk_frozen BK117.out 4) | ((with_reducible refine gate_dst (N := 3) rfl ?_); (try (refine gate_guard (by rfl) ?_; dsimp only)); refine box_event ?hg (N := 3) ?hd (cs := #[.slice none 0 0, .slice none 0 0]) (t := 35) ?hr ?_; (case hd => rfl); (case hg => rfl); (case hr => first | (go_simp; done) | (go_simp; rfl)); intro gb118 hg w7 hbox hb; have n0_ := am_ (blk_below (g := gb117) (o := .cells #[.slice A0_0 l0_0.length c0_0, .slice A0_1 l0_1.length c0_1, .slice A0_2 l0_2.length c0_2, .slice A0_3 l0_3.length c0_3, .int .u64 a0_4] 38 (0, 0)) (bx_ BK117) hb); have n1_ := am_ (below_step (hx_ HB) hb); have n2_ := am_ (hbox); have n3_ := am_ ((by rw [hg]; exact (below_size (hx_ HB)) : w.heap.size ≤ gb118)); have n4_ := am_ ((by rw [hg]; exact (below_size (hx_ HB)) : w.heap.size ≤ gb118)); have n5_ := am_ ((by rw [hg]; exact Nat.ne_of_lt (blk_lt (g := gb117) (o := .cells #[.slice A0_0 l0_0.length c0_0, .slice A0_1 l0_1.length c0_1, .slice A0_2 l0_2.length c0_2, .slice A0_3 l0_3.length c0_3, .int .u64 a0_4] 38 (0, 0)) (bx_ BK117)) : gb117 ≠ gb118)); have n6_ := am_ ((by rw [hg]; exact Nat.ne_of_gt (blk_lt (g := gb117) (o := .cells #[.slice A0_0 l0_0.length c0_0, .slice A0_1 l0_1.length c0_1, .slice A0_2 l0_2.length c0_2, .slice A0_3 l0_3.length c0_3, .int .u64 a0_4] 38 (0, 0)) (bx_ BK117)) : gb118 ≠ gb117)); clear BK117; clear HB; have BK117 := n0_; have HB := n1_; have BK118 := n2_; have GW118 := n3_; have GE118 := n4_; have NB117_118 := n5_; have NB118_117 := n6_; clear n0_ n1_ n2_ n3_ n4_ n5_ n6_; clear hb hbox hg; have hnb8 := NB118_117.out; have hnc8 := NB117_118.out; have hcz9_0 : w7.cell? ⟨gb118, 0, none⟩ = some (.slice none 0 0) := (blk_cell BK118.out 0).trans rfl; have hcz9_1 : w7.cell? ⟨gb118, 1, none⟩ = some (.slice none 0 0) := (blk_cell BK118.out 1).trans rfl; have hfz9_0 := blk_frozen BK118.out 0; have hfz9_1 := blk_frozen BK118.out 1; have hcz10_0 : w7.cell? ⟨gb117, 0, none⟩ = some (.slice A0_0 l0_0.length c0_0) := (blk_cell BK117.out 0).trans rfl; have hcz10_1 : w7.cell? ⟨gb117, 1, none⟩ = some (.slice A0_1 l0_1.length c0_1) := (blk_cell BK117.out 1).trans rfl; have hcz10_2 : w7.cell? ⟨gb117, 2, none⟩ = some (.slice A0_2 l0_2.length c0_2) := (blk_cell BK117.out 2).trans rfl; have hcz10_3 : w7.cell? ⟨gb117, 3, none⟩ = some (.slice A0_3 l0_3.length c0_3) := (blk_cell BK117.out 3).trans rfl; have hcz10_4 : w7.cell? ⟨gb117, 4, none⟩ = some (.int .u64 a0_4) := (blk_cell BK117.out 4).trans rfl; have hfz10_0 := blk_frozen BK117.out 0; have hfz10_1 := blk_frozen BK117.out 1; have hfz10_2 := blk_frozen BK117.out 2; have hfz10_3 := blk_frozen BK117.out 3; have hfz10_4 := blk_frozen BK117.out 4) | ((with_reducible refine gate_callee (f := 8) rfl ?_); refine goesL_ (some 30) rfl rfl Try.func8 (by kernel_rfl) rfl #[] rfl (by (try simp only [List.map_toArray, List.map_cons, List.map_nil]); first | done | rfl | (simp only [List.length_drop, List.length_take]; rfl)) ?_; (with_reducible refine (ferrulelaw07_shown.calls  t119 _ A2.out).mono ?_); rintro e w11 ⟨rfl, hb⟩; refine ⟨_, rfl, ?_⟩; have n0_ := am_ (blk_below (g := gb117) (o := .cells #[.slice A0_0 l0_0.length c0_0, .slice A0_1 l0_1.length c0_1, .slice A0_2 l0_2.length c0_2, .slice A0_3 l0_3.length c0_3, .int .u64 a0_4] 38 (0, 0)) (by (with_reducible repeat (first | refine blk_drewN ?_ _ | refine blk_drew ?_ | refine blk_alloc ?_ _)); refine blk_far ?_ NB117_118.out _; (with_reducible repeat (first | refine blk_drewN ?_ _ | refine blk_drew ?_ | refine blk_alloc ?_ _)); refine blk_far ?_ NB117_118.out _; (with_reducible repeat (first | refine blk_drewN ?_ _ | refine blk_drew ?_ | refine blk_alloc ?_ _)); exact BK117.out) hb); have n1_ := am_ (blk_below (g := gb118) (o := .cells #[.slice A0_0 l0_0.length c0_0, .slice A0_1 l0_1.length c0_1] 35 (0, 0)) (by (with_reducible repeat (first | refine blk_drewN ?_ _ | refine blk_drew ?_ | refine blk_alloc ?_ _)); refine blk_put (cs := #[.slice A0_0 l0_0.length c0_0, .slice none 0 0]) ?_ 1 _ rfl; (with_reducible repeat (first | refine blk_drewN ?_ _ | refine blk_drew ?_ | refine blk_alloc ?_ _)); refine blk_put (cs := #[.slice none 0 0, .slice none 0 0]) ?_ 0 _ rfl; (with_reducible repeat (first | refine blk_drewN ?_ _ | refine blk_drew ?_ | refine blk_alloc ?_ _)); exact BK118.out) hb); have n2_ := am_ (below_step (hx_ HB) hb); clear BK117; clear BK118; clear HB; have BK117 := n0_; have BK118 := n1_; have HB := n2_; clear n0_ n1_ n2_; (try clear hb); (try clear hb2); (try clear hk); (try clear hi); have hcz12_0 : w11.cell? ⟨gb118, 0, none⟩ = some (.slice A0_0 l0_0.length c0_0) := (blk_cell BK118.out 0).trans rfl; have hcz12_1 : w11.cell? ⟨gb118, 1, none⟩ = some (.slice A0_1 l0_1.length c0_1) := (blk_cell BK118.out 1).trans rfl; have hfz12_0 := blk_frozen BK118.out 0; have hfz12_1 := blk_frozen BK118.out 1) | ((with_reducible refine gate_callee (f := 11) rfl ?_); refine goesL_ (some 32) rfl rfl Try.func11 (by kernel_rfl) rfl #[.agg #[.slice A0_0 l0_0.length c0_0, .slice A0_1 l0_1.length c0_1]] rfl (by (try simp only [List.map_toArray, List.map_cons, List.map_nil]); first | done | rfl | (simp only [List.length_drop, List.length_take]; rfl)) ?_; (with_reducible refine (ferruleref06_May.calls k _ _ l0_0 _ _ l0_1 true _ ?side1 ?side2 ?side3 ?side4 A3.out).mono ?_); (case side1 => repeat (first | exact (Kd.C_below HR0_0.out HB.out) | (with_reducible refine Kd.C_alloc ?_ _) | (with_reducible refine Kd.C_drewN ?_ _) | (with_reducible refine Kd.C_drew ?_))); (case side2 => exact HC0_0.out); (case side3 => repeat (first | exact (Kd.C_below HR0_1.out HB.out) | (with_reducible refine Kd.C_alloc ?_ _) | (with_reducible refine Kd.C_drewN ?_ _) | (with_reducible refine Kd.C_drew ?_))); (case side4 => exact HC0_1.out); rintro e w13 ⟨rfl, hb⟩; refine ⟨_, rfl, ?_⟩; have n0_ := am_ (blk_below (g := gb117) (o := .cells #[.slice A0_0 l0_0.length c0_0, .slice A0_1 l0_1.length c0_1, .slice A0_2 l0_2.length c0_2, .slice A0_3 l0_3.length c0_3, .int .u64 a0_4] 38 (0, 0)) (bx_ BK117) hb); have n1_ := am_ (blk_below (g := gb118) (o := .cells #[.slice A0_0 l0_0.length c0_0, .slice A0_1 l0_1.length c0_1] 35 (0, 0)) (bx_ BK118) hb); have n2_ := am_ (below_step (hx_ HB) hb); clear BK117; clear BK118; clear HB; have BK117 := n0_; have BK118 := n1_; have HB := n2_; clear n0_ n1_ n2_; (try clear hb); (try clear hb2); (try clear hk); (try clear hi)))
  go_loopg [9, 11] k (fun kq v9 v11 w' => ∃ (x9_1 : List (S24)) (x11_1 : Int), v11 = .int .i64 x11_1 ∧ Aside0 (ferrulelaw07_BallotOne.l0 kq l0_2 l0_3 a0_4 t119 x9_1 x11_1 l0_0 l0_1 = some r) ∧ Aside0 (kq ≤ k) ∧ Aside0 (Kd.R k24 24 w' w.heap.size (fun _ => True) v9 x9_1) ∧ Aside0 (w'.heap[gb117]? = some (.cells #[(.slice A0_0 l0_0.length c0_0), (.slice A0_1 l0_1.length c0_1), (.slice A0_2 l0_2.length c0_2), (.slice A0_3 l0_3.length c0_3), .int .u64 a0_4] 38 (0, 0))) ∧ Aside0 (w'.heap[gb118]? = some (.cells #[(.slice A0_0 l0_0.length c0_0), (.slice A0_1 l0_1.length c0_1)] 35 (0, 0))) ∧ Aside0 (Below w.heap.size w w'))
  case atStart => exact ⟨(([] : List (S24))), (0), (by first | rfl | (simp; done) | (simp [*]; done)), H', ⟨Nat.le_refl _⟩, ⟨by first | exact Kd.R_nil _ _ _ _ _ | exact Kd.N_nil _ _ _ _ _ | exact Kd.V_nil _ _ _ _ _ | exact Kd.Q_nil _ _ _ _ _ | exact Kd.S_nil _ _ _ _ _⟩, ⟨bx_ BK117⟩, ⟨bx_ BK118⟩, ⟨hx_ HB⟩⟩
  case round =>
   clear H'
   try clear c1
   try clear p2
   try clear c4
   try clear c5
   try clear c8
   try clear c11
   try clear hcz10_0
   try clear hcz10_1
   try clear hcz10_2
   try clear hcz10_3
   try clear hcz10_4
   try clear hcz12_0
   try clear hcz12_1
   try clear hcz6_0
   try clear hcz6_1
   try clear hcz6_2
   try clear hcz6_3
   try clear hcz6_4
   try clear hcz9_0
   try clear hcz9_1
   try clear hfz10_0
   try clear hfz10_1
   try clear hfz10_2
   try clear hfz10_3
   try clear hfz10_4
   try clear hfz12_0
   try clear hfz12_1
   try clear hfz6_0
   try clear hfz6_1
   try clear hfz6_2
   try clear hfz6_3
   try clear hfz6_4
   try clear hfz9_0
   try clear hfz9_1
   obtain ⟨x9_1, x11_1, rfl, HA, HK1, HO_9, BK117, BK118, HB⟩ := hrel
   cases gk with
   | zero => exact absurd HA.out (by simp [ferrulelaw07_BallotOne.l0])
   | succ k1 =>
    have H := HA.out
    clear HA
    simp only [ferrulelaw07_BallotOne.l0] at H
    by_cases c14 : x11_1 < (l0_0.length : Int)
    ·rw [if_pos c14] at H
     have c14b0 : decide (x11_1 < (l0_0.length : Int)) = true := decide_eq_true c14
     clear c14
     by_cases c15 : x9_1.length < 3518437208883
     ·rw [if_pos c15] at H
      have LMc15 := am_ c15
      clear c15
      obtain ⟨y121, hy121⟩ : ∃ y_ : List (S24), y_ = (x9_1 ++ [(⟨0, 0, 0, 0, false⟩ : S24)]) := ⟨_, rfl⟩
      replace H : (ferrulelaw07_BallotOne.l0 k1 l0_2 l0_3 a0_4 t119 y121 (wrap64 (x11_1 + 1)) l0_0 l0_1) = some r := by first | (rw [hy121]; with_reducible exact H) | (have H2_ := (Option.bind_some _ _).symm.trans H; rw [hy121]; with_reducible exact H2_) | (have H2_ := (Option.bind_some _ _).symm.trans H; with_reducible exact H2_) | with_reducible exact H | (rw [hy121]; exact H) | exact H
      have Ny121 := am_ hy121
      clear hy121
      have H' := am_ H
      clear H
      have hnb16 := NB118_117.out
      have hnc16 := NB117_118.out
      have hcz17_0 : wr.cell? ⟨gb118, 0, none⟩ = some (.slice A0_0 l0_0.length c0_0) := (blk_cell BK118.out 0).trans rfl
      have hcz17_1 : wr.cell? ⟨gb118, 1, none⟩ = some (.slice A0_1 l0_1.length c0_1) := (blk_cell BK118.out 1).trans rfl
      have hfz17_0 := blk_frozen BK118.out 0
      have hfz17_1 := blk_frozen BK118.out 1
      go_wp2_with (first | ((with_reducible refine gate_builtin (b := .append) (xs := #[.tmp 43, .tmp 45]) rfl ?_); (try (refine gate_guard (by rfl) ?_; dsimp only)); at_builtin; refine Kd.R_append k24 (w0 := w) w.heap.size rfl (.tmp 43) (.tmp 45) 40 24 (.agg #[(.int .u64 0), (.int .u64 0), (.int .u64 0), (.int .u64 0), (.bool false)]) 40 rfl Try.underlying40 info24 rfl (by decide) (by omega) u9 x9_1 (⟨0, 0, 0, 0, false⟩ : S24) [.int .u64 0, .int .u64 0, .int .u64 0, .int .u64 0, .bool false] (fun _ => True) (fun _ => False) rfl rfl ?aP (fun _ hk => hk.elim) ?aF ?aO ?aB ?aS ?aL ?_; (case aP => exact k24_mkM _ _ _ (⟨0, 0, 0, 0, false⟩ : S24)); (case aB => exact (hx_ HB)); (case aF => exact (fun _ _ => trivial)); (case aO => exact (rx_ HO_9)); (case aS => exact (below_size (hx_ HB))); (case aL => have := LMc15.out; omega); intro v122 w18 ho hb hg hat; rw [← Ny121.out] at ho; have n0_ := am_ (blk_grown (g := gb117) (o := .cells #[.slice A0_0 l0_0.length c0_0, .slice A0_1 l0_1.length c0_1, .slice A0_2 l0_2.length c0_2, .slice A0_3 l0_3.length c0_3, .int .u64 a0_4] 38 (0, 0)) (bx_ BK117) hg (Kd.R_ne HO_9.out BK117.out (by decide))); have n1_ := am_ (blk_grown (g := gb118) (o := .cells #[.slice A0_0 l0_0.length c0_0, .slice A0_1 l0_1.length c0_1] 35 (0, 0)) (bx_ BK118) hg (Kd.R_ne HO_9.out BK118.out (by decide))); have n2_ := am_ (hb); have n3_ := am_ (ho); clear BK117; clear BK118; clear HB; clear HO_9; have BK117 := n0_; have BK118 := n1_; have HB := n2_; have HO123 := n3_; clear n0_ n1_ n2_ n3_; clear ho hb hg hat))
      go_roundg k1
      case measure => have := HK1.out; omega
      case rel => exact ⟨(y121), (wrap64 (x11_1 + 1)), (by first | rfl | (simp; done) | (simp [*]; done)), H', ⟨by have := HK1.out; omega⟩, ⟨rx_ HO123⟩, ⟨bx_ BK117⟩, ⟨bx_ BK118⟩, ⟨hx_ HB⟩⟩
     ·rw [if_neg c15] at H
      exact absurd H (by simp)
    ·rw [if_neg c14] at H
     have c14b0 : decide (x11_1 < (l0_0.length : Int)) = false := decide_eq_false c14
     clear c14
     have H' := am_ H
     clear H
     have hnb19 := NB118_117.out
     have hnc19 := NB117_118.out
     have hcz20_0 : wr.cell? ⟨gb118, 0, none⟩ = some (.slice A0_0 l0_0.length c0_0) := (blk_cell BK118.out 0).trans rfl
     have hcz20_1 : wr.cell? ⟨gb118, 1, none⟩ = some (.slice A0_1 l0_1.length c0_1) := (blk_cell BK118.out 1).trans rfl
     have hfz20_0 := blk_frozen BK118.out 0
     have hfz20_1 := blk_frozen BK118.out 1
     go_wp2
     go_loopg [10, 12] k1 (fun kq v10 v12 w' => ∃ (x10_2 : List (List Int)) (x12_2 : Int), v12 = .int .i64 x12_2 ∧ Aside0 (ferrulelaw07_BallotOne.l1 kq l0_2 l0_3 a0_4 t119 x9_1 x10_2 x12_2 l0_0 l0_1 = some r) ∧ Aside0 (kq ≤ k1) ∧ Aside0 (Kd.R k24 24 w' w.heap.size (fun _ => True) u9 x9_1) ∧ Aside0 (Kd.S (Kd.slice 22 (Kd.int .u64)) 33 w' w.heap.size (fun _ => True) v10 x10_2) ∧ Aside0 (w'.heap[gb117]? = some (.cells #[(.slice A0_0 l0_0.length c0_0), (.slice A0_1 l0_1.length c0_1), (.slice A0_2 l0_2.length c0_2), (.slice A0_3 l0_3.length c0_3), .int .u64 a0_4] 38 (0, 0))) ∧ Aside0 (w'.heap[gb118]? = some (.cells #[(.slice A0_0 l0_0.length c0_0), (.slice A0_1 l0_1.length c0_1)] 35 (0, 0))) ∧ Aside0 (Below w.heap.size w w'))
     case atStart => exact ⟨(([] : List (List Int))), (0), (by first | rfl | (simp; done) | (simp [*]; done)), H', ⟨Nat.le_refl _⟩, ⟨rx_ HO_9⟩, ⟨by first | exact Kd.S_nil _ _ _ _ _ | exact Kd.N_nil _ _ _ _ _ | exact Kd.V_nil _ _ _ _ _ | exact Kd.Q_nil _ _ _ _ _ | exact Kd.R_nil _ _ _ _ _⟩, ⟨bx_ BK117⟩, ⟨bx_ BK118⟩, ⟨hx_ HB⟩⟩
     case round =>
      clear H'
      try clear c1
      try clear p2
      try clear c4
      try clear c5
      try clear p6
      try clear c8
      try clear c11
      try clear c14
      try clear c14b0
      try clear c15
      try clear c16
      try clear c19
      try clear hcz10_0
      try clear hcz10_1
      try clear hcz10_2
      try clear hcz10_3
      try clear hcz10_4
      try clear hcz12_0
      try clear hcz12_1
      try clear hcz17_0
      try clear hcz17_1
      try clear hcz20_0
      try clear hcz20_1
      try clear hcz6_0
      try clear hcz6_1
      try clear hcz6_2
      try clear hcz6_3
      try clear hcz6_4
      try clear hcz9_0
      try clear hcz9_1
      try clear hfz10_0
      try clear hfz10_1
      try clear hfz10_2
      try clear hfz10_3
      try clear hfz10_4
      try clear hfz12_0
      try clear hfz12_1
      try clear hfz17_0
      try clear hfz17_1
      try clear hfz20_0
      try clear hfz20_1
      try clear hfz6_0
      try clear hfz6_1
      try clear hfz6_2
      try clear hfz6_3
      try clear hfz6_4
      try clear hfz9_0
      try clear hfz9_1
      try clear p2
      obtain ⟨x10_2, x12_2, rfl, HA, HK2, HO_9, HO_10, BK117, BK118, HB⟩ := hrel
      cases gk with
      | zero => exact absurd HA.out (by simp [ferrulelaw07_BallotOne.l1])
      | succ k2 =>
       have H := HA.out
       clear HA
       simp only [ferrulelaw07_BallotOne.l1] at H
       by_cases c21 : x12_2 < (l0_2.length : Int)
       ·rw [if_pos c21] at H
        have c21b0 : decide (x12_2 < (l0_2.length : Int)) = true := decide_eq_true c21
        clear c21
        by_cases c22 : x10_2.length < 5864062014805
        ·rw [if_pos c22] at H
         have LMc22 := am_ c22
         clear c22
         obtain ⟨y124, hy124⟩ : ∃ y_ : List (List Int), y_ = (x10_2 ++ [[]]) := ⟨_, rfl⟩
         replace H : (ferrulelaw07_BallotOne.l1 k2 l0_2 l0_3 a0_4 t119 x9_1 y124 (wrap64 (x12_2 + 1)) l0_0 l0_1) = some r := by first | (rw [hy124]; with_reducible exact H) | (have H2_ := (Option.bind_some _ _).symm.trans H; rw [hy124]; with_reducible exact H2_) | (have H2_ := (Option.bind_some _ _).symm.trans H; with_reducible exact H2_) | with_reducible exact H | (rw [hy124]; exact H) | exact H
         have Ny124 := am_ hy124
         clear hy124
         have H' := am_ H
         clear H
         go_wp2_with (first | ((with_reducible refine gate_builtin (b := .append) (xs := #[.tmp 53, .tmp 54]) rfl ?_); (try (refine gate_guard (by rfl) ?_; dsimp only)); at_builtin; refine Kd.S_append (Kd.slice 22 (Kd.int .u64)) (w0 := w) w.heap.size rfl (.tmp 53) (.tmp 54) 41 33 (.slice none 0 0) 24 rfl Try.underlying41 info33 rfl (by decide) (by omega) u10 x10_2 [] [.slice none 0 0] (fun _ => True) (fun _ => False) rfl rfl ?aP (fun _ hk => hk.elim) ?aF ?aO ?aB ?aS ?aL ?_; (case aP => exact ⟨.slice none 0 0, rfl, Kd.R_nil _ _ _ _ _⟩); (case aB => exact (hx_ HB)); (case aF => exact (fun _ _ => trivial)); (case aO => exact (by (with_reducible repeat (first | apply Kd.S_alloc | apply Kd.S_drewN | apply Kd.S_drew)); exact Kd.S_mono HO_10.out (fun k_ hk => ⟨trivial, fun e_ => e_⟩))); (case aS => exact (below_size (hx_ HB))); (case aL => have := LMc22.out; omega); intro v125 w23 ho hb hg hat; rw [← Ny124.out] at ho; have n0_ := am_ (Kd.R_over' (rx_ HO_9) (Kd.S_typed (by (with_reducible repeat (first | apply Kd.S_alloc | apply Kd.S_drewN | apply Kd.S_drew)); exact HO_10.out)) (by decide) hg); have n1_ := am_ (blk_grown (g := gb117) (o := .cells #[.slice A0_0 l0_0.length c0_0, .slice A0_1 l0_1.length c0_1, .slice A0_2 l0_2.length c0_2, .slice A0_3 l0_3.length c0_3, .int .u64 a0_4] 38 (0, 0)) (bx_ BK117) hg (Kd.S_ne HO_10.out BK117.out (by decide))); have n2_ := am_ (blk_grown (g := gb118) (o := .cells #[.slice A0_0 l0_0.length c0_0, .slice A0_1 l0_1.length c0_1] 35 (0, 0)) (bx_ BK118) hg (Kd.S_ne HO_10.out BK118.out (by decide))); have n3_ := am_ (hb); have n4_ := am_ (ho); clear HO_9; clear BK117; clear BK118; clear HB; clear HO_10; have HO_9 := n0_; have BK117 := n1_; have BK118 := n2_; have HB := n3_; have HO126 := n4_; clear n0_ n1_ n2_ n3_ n4_; clear ho hb hg hat))
         go_roundg k2
         case measure => have := HK1.out; have := HK2.out; omega
         case rel => exact ⟨(y124), (wrap64 (x12_2 + 1)), (by first | rfl | (simp; done) | (simp [*]; done)), H', ⟨by have := HK1.out; have := HK2.out; omega⟩, ⟨rx_ HO_9⟩, ⟨by (with_reducible repeat (first | apply Kd.S_alloc | apply Kd.S_drewN | apply Kd.S_drew)); exact HO126.out⟩, ⟨bx_ BK117⟩, ⟨bx_ BK118⟩, ⟨hx_ HB⟩⟩
        ·rw [if_neg c22] at H
         exact absurd H (by simp)
       ·rw [if_neg c21] at H
        have c21b0 : decide (x12_2 < (l0_2.length : Int)) = false := decide_eq_false c21
        clear c21
        have H' := am_ H
        clear H
        go_wp2
        go_loopg [13] k2 (fun kq v13 w' => ∃ (x9_3 : List (S24)) (x10_3 : List (List Int)) (x13_3 : Int), v13 = .int .i64 x13_3 ∧ Aside0 (ferrulelaw07_BallotOne.l2 kq l0_2 l0_3 a0_4 t119 x9_3 x10_3 x13_3 l0_0 l0_1 = some r) ∧ Aside0 (kq ≤ k2) ∧ Aside0 (Kd.R k24 24 w' w.heap.size (fun _ => True) u9 x9_3) ∧ Aside0 (Kd.S (Kd.slice 22 (Kd.int .u64)) 33 w' w.heap.size (fun _ => True) u10 x10_3) ∧ Aside0 (w'.heap[gb117]? = some (.cells #[(.slice A0_0 l0_0.length c0_0), (.slice A0_1 l0_1.length c0_1), (.slice A0_2 l0_2.length c0_2), (.slice A0_3 l0_3.length c0_3), .int .u64 a0_4] 38 (0, 0))) ∧ Aside0 (w'.heap[gb118]? = some (.cells #[(.slice A0_0 l0_0.length c0_0), (.slice A0_1 l0_1.length c0_1)] 35 (0, 0))) ∧ Aside0 (Below w.heap.size w w'))
        case atStart => exact ⟨(x9_1), (x10_2), (0), (by first | rfl | (simp; done) | (simp [*]; done)), H', ⟨Nat.le_refl _⟩, ⟨rx_ HO_9⟩, ⟨by (with_reducible repeat (first | apply Kd.S_alloc | apply Kd.S_drewN | apply Kd.S_drew)); exact HO_10.out⟩, ⟨bx_ BK117⟩, ⟨bx_ BK118⟩, ⟨hx_ HB⟩⟩
        case round =>
         clear H'
         try clear c1
         try clear c2
         try clear p2
         try clear c4
         try clear c5
         try clear p6
         try clear c8
         try clear c11
         try clear c14
         try clear c14b0
         try clear c15
         try clear c16
         try clear c19
         try clear c21
         try clear c21b0
         try clear c22
         try clear hcz10_0
         try clear hcz10_1
         try clear hcz10_2
         try clear hcz10_3
         try clear hcz10_4
         try clear hcz12_0
         try clear hcz12_1
         try clear hcz17_0
         try clear hcz17_1
         try clear hcz20_0
         try clear hcz20_1
         try clear hcz6_0
         try clear hcz6_1
         try clear hcz6_2
         try clear hcz6_3
         try clear hcz6_4
         try clear hcz9_0
         try clear hcz9_1
         try clear hfz10_0
         try clear hfz10_1
         try clear hfz10_2
         try clear hfz10_3
         try clear hfz10_4
         try clear hfz12_0
         try clear hfz12_1
         try clear hfz17_0
         try clear hfz17_1
         try clear hfz20_0
         try clear hfz20_1
         try clear hfz6_0
         try clear hfz6_1
         try clear hfz6_2
         try clear hfz6_3
         try clear hfz6_4
         try clear hfz9_0
         try clear hfz9_1
         try clear p2
         try clear p6
         obtain ⟨x9_3, x10_3, x13_3, rfl, HA, HK3, HO_9, HO_10, BK117, BK118, HB⟩ := hrel
         cases gk with
         | zero => exact absurd HA.out (by simp [ferrulelaw07_BallotOne.l2])
         | succ k3 =>
          have H := HA.out
          clear HA
          simp only [ferrulelaw07_BallotOne.l2] at H
          have HC24 := am_ H
          clear H
          go_upto_region 20 with (fail)
          go_cut [64] (fun v64 wc => ∃ (kq : Nat) (x64_23 : Bool), v64 = .bool x64_23 ∧ Aside0 (ferrulelaw07_BallotOne.j3 kq l0_2 l0_3 a0_4 t119 x9_3 x10_3 x13_3 x64_23 l0_0 l0_1 = some r) ∧ Aside0 (kq ≤ k3) ∧ Aside0 (Kd.R k24 24 wc w.heap.size (fun _ => True) u9 x9_3) ∧ Aside0 (Kd.S (Kd.slice 22 (Kd.int .u64)) 33 wc w.heap.size (fun _ => True) u10 x10_3) ∧ Aside0 (wc.heap[gb117]? = some (.cells #[(.slice A0_0 l0_0.length c0_0), (.slice A0_1 l0_1.length c0_1), (.slice A0_2 l0_2.length c0_2), (.slice A0_3 l0_3.length c0_3), .int .u64 a0_4] 38 (0, 0))) ∧ Aside0 (wc.heap[gb118]? = some (.cells #[(.slice A0_0 l0_0.length c0_0), (.slice A0_1 l0_1.length c0_1)] 35 (0, 0))) ∧ Aside0 (Below w.heap.size w wc))
          case first =>
           have H := HC24.out
           clear HC24
           by_cases c25 : x13_3 < (l0_3.length : Int)
           ·rw [if_pos c25] at H
            have c25b0 : decide (x13_3 < (l0_3.length : Int)) = true := decide_eq_true c25
            clear c25
            (first | rw [c25b0] | (simp only [i64_w, i32_w]; rw [c25b0]) | skip)
            have H' := am_ H
            clear H
            go_wp2
            go_meet
            case rel => exact ⟨_, (decide ((l0_2.length : Int) > 0)), (by first | rfl | (simp; done) | (simp [*]; done)), H', ⟨by have := HK1.out; have := HK2.out; have := HK3.out; first | omega | exact Nat.le_refl _⟩, ⟨rx_ HO_9⟩, ⟨by (with_reducible repeat (first | apply Kd.S_alloc | apply Kd.S_drewN | apply Kd.S_drew)); exact HO_10.out⟩, ⟨bx_ BK117⟩, ⟨bx_ BK118⟩, ⟨hx_ HB⟩⟩
           ·rw [if_neg c25] at H
            have c25b0 : decide (x13_3 < (l0_3.length : Int)) = false := decide_eq_false c25
            clear c25
            (first | rw [c25b0] | (simp only [i64_w, i32_w]; rw [c25b0]) | skip)
            have H' := am_ H
            clear H
            go_wp2
            go_meet
            case rel => exact ⟨_, (false), (by first | rfl | (simp; done) | (simp [*]; done)), H', ⟨by have := HK1.out; have := HK2.out; have := HK3.out; first | omega | exact Nat.le_refl _⟩, ⟨rx_ HO_9⟩, ⟨by (with_reducible repeat (first | apply Kd.S_alloc | apply Kd.S_drewN | apply Kd.S_drew)); exact HO_10.out⟩, ⟨bx_ BK117⟩, ⟨bx_ BK118⟩, ⟨hx_ HB⟩⟩
          case rest =>
           clear HC24
           try clear c1
           try clear c2
           try clear p2
           try clear c4
           try clear c5
           try clear p6
           try clear c8
           try clear c11
           try clear c14
           try clear c14b0
           try clear c15
           try clear c16
           try clear c19
           try clear c21
           try clear c21b0
           try clear c22
           try clear c25
           try clear c25b0
           try clear hcz10_0
           try clear hcz10_1
           try clear hcz10_2
           try clear hcz10_3
           try clear hcz10_4
           try clear hcz12_0
           try clear hcz12_1
           try clear hcz17_0
           try clear hcz17_1
           try clear hcz20_0
           try clear hcz20_1
           try clear hcz6_0
           try clear hcz6_1
           try clear hcz6_2
           try clear hcz6_3
           try clear hcz6_4
           try clear hcz9_0
           try clear hcz9_1
           try clear hfz10_0
           try clear hfz10_1
           try clear hfz10_2
           try clear hfz10_3
           try clear hfz10_4
           try clear hfz12_0
           try clear hfz12_1
           try clear hfz17_0
           try clear hfz17_1
           try clear hfz20_0
           try clear hfz20_1
           try clear hfz6_0
           try clear hfz6_1
           try clear hfz6_2
           try clear hfz6_3
           try clear hfz6_4
           try clear hfz9_0
           try clear hfz9_1
           try clear p2
           try clear p6
           obtain ⟨kq, x64_23, rfl, HA, HJ23, HO_9, HO_10, BK117, BK118, HB⟩ := hcut
           cases kq with
           | zero => exact absurd HA.out (by simp [ferrulelaw07_BallotOne.j3])
           | succ kj23 =>
            have H := HA.out
            clear HA
            simp only [ferrulelaw07_BallotOne.j3] at H
            by_cases c26 : x64_23 = true
            ·subst c26
             have H1 : (if 0 ≤ x13_3 then (if x13_3 < (l0_3.length : Int) then (if (l0_2.length : Int) = 0 then (none) else (if (x9_3.length : Int) = 0 then (none) else (if (Int.tmod (rd l0_3 x13_3) (l0_2.length : Int)) < 0 then (ferrulelaw07_BallotOne.j4 kj23 l0_2 l0_3 a0_4 t119 x9_3 x10_3 x13_3 (Int.tmod (rd l0_3 x13_3) (l0_2.length : Int)) (Int.tmod (wrap64 (Int.tdiv (rd l0_3 x13_3) 7)) (x9_3.length : Int)) true l0_0 l0_1) else (ferrulelaw07_BallotOne.j4 kj23 l0_2 l0_3 a0_4 t119 x9_3 x10_3 x13_3 (Int.tmod (rd l0_3 x13_3) (l0_2.length : Int)) (Int.tmod (wrap64 (Int.tdiv (rd l0_3 x13_3) 7)) (x9_3.length : Int)) (decide ((Int.tmod (wrap64 (Int.tdiv (rd l0_3 x13_3) 7)) (x9_3.length : Int)) < 0)) l0_0 l0_1)))) else (none)) else (none)) = some r := by rw [if_pos rfl] at H; exact H
             clear H
             have H := H1
             clear H1
             by_cases c27 : 0 ≤ x13_3
             ·rw [if_pos c27] at H
              have c27b0 : decide (0 ≤ x13_3) = true := decide_eq_true c27
              clear c27
              by_cases c28 : x13_3 < (l0_3.length : Int)
              ·rw [if_pos c28] at H
               have c28b0 : decide (x13_3 < (l0_3.length : Int)) = true := decide_eq_true c28
               clear c28
               by_cases c29 : (l0_2.length : Int) = 0
               ·rw [if_pos c29] at H
                exact absurd H (by simp)
               ·rw [if_neg c29] at H
                have c29b0 : ((l0_2.length : Int) == 0) = false := beq_eq_false_iff_ne.mpr c29
                have c29b1 : ((l0_2.length : Int) != 0) = true := bne_iff_ne.mpr c29
                have c29b2 : ¬ (l0_2 = []) := fun h_ => c29 (by rw [h_]; rfl)
                by_cases c30 : (x9_3.length : Int) = 0
                ·rw [if_pos c30] at H
                 exact absurd H (by simp)
                ·rw [if_neg c30] at H
                 have c30b0 : ((x9_3.length : Int) == 0) = false := beq_eq_false_iff_ne.mpr c30
                 have c30b1 : ((x9_3.length : Int) != 0) = true := bne_iff_ne.mpr c30
                 have c30b2 : ¬ (x9_3 = []) := fun h_ => c30 (by rw [h_]; rfl)
                 have HC31 := am_ H
                 clear H
                 have p127 : 0 ≤ (x13_3 : Int) := of_decide_eq_true (by first | (with_reducible assumption) | assumption)
                 have q127 : x13_3 < (l0_3.length : Int) := of_decide_eq_true (by first | (with_reducible assumption) | assumption)
                 obtain ⟨ad127, e127, hx127_0⟩ := Kd.at_int HR0_3.out x13_3 p127 q127
                 cases e127
                 replace hx127_0 := (HB.out.cell (World.block_lt_of_cell? w _ hx127_0)).trans hx127_0
                 replace p127 := eq_true p127
                 replace q127 := eq_true q127
                 have p128 : 0 ≤ (x13_3 : Int) := of_decide_eq_true (by first | (with_reducible assumption) | assumption)
                 have q128 : x13_3 < (l0_3.length : Int) := of_decide_eq_true (by first | (with_reducible assumption) | assumption)
                 obtain ⟨ad128, e128, hx128_0⟩ := Kd.at_int HR0_3.out x13_3 p128 q128
                 obtain rfl : ad127 = ad128 := (by injection e128)
                 replace hx128_0 := (HB.out.cell (World.block_lt_of_cell? w _ hx128_0)).trans hx128_0
                 replace p128 := eq_true p128
                 replace q128 := eq_true q128
                 obtain ⟨Ao32, co32, eo32⟩ := Kd.R_slice HO_9.out
                 subst eo32
                 go_upto_region 24 with (fail)
                 go_cut [87] (fun v87 wc => ∃ (kq : Nat) (x87_30 : Bool), v87 = .bool x87_30 ∧ Aside0 (ferrulelaw07_BallotOne.j4 kq l0_2 l0_3 a0_4 t119 x9_3 x10_3 x13_3 (Int.tmod (rd l0_3 x13_3) (l0_2.length : Int)) (Int.tmod (wrap64 (Int.tdiv (rd l0_3 x13_3) 7)) (x9_3.length : Int)) x87_30 l0_0 l0_1 = some r) ∧ Aside0 (kq ≤ kj23) ∧ Aside0 (Kd.R k24 24 wc w.heap.size (fun _ => True) (.slice Ao32 x9_3.length co32) x9_3) ∧ Aside0 (Kd.S (Kd.slice 22 (Kd.int .u64)) 33 wc w.heap.size (fun _ => True) u10 x10_3) ∧ Aside0 (wc.heap[gb117]? = some (.cells #[(.slice A0_0 l0_0.length c0_0), (.slice A0_1 l0_1.length c0_1), (.slice A0_2 l0_2.length c0_2), (.slice (some ad127) l0_3.length c0_3), .int .u64 a0_4] 38 (0, 0))) ∧ Aside0 (wc.heap[gb118]? = some (.cells #[(.slice A0_0 l0_0.length c0_0), (.slice A0_1 l0_1.length c0_1)] 35 (0, 0))) ∧ Aside0 (Below w.heap.size w wc))
                 case first =>
                  have H := HC31.out
                  clear HC31
                  by_cases c33 : (Int.tmod (rd l0_3 x13_3) (l0_2.length : Int)) < 0
                  ·rw [if_pos c33] at H
                   have c33b0 : decide ((Int.tmod (rd l0_3 x13_3) (l0_2.length : Int)) < 0) = true := decide_eq_true c33
                   clear c33
                   (first | rw [c33b0] | (simp only [i64_w, i32_w]; rw [c33b0]) | skip)
                   have H' := am_ H
                   clear H
                   go_wp2
                   go_meet
                   case rel => exact ⟨_, (true), (by first | rfl | (simp; done) | (simp [*]; done)), H', ⟨by have := HK1.out; have := HK2.out; have := HK3.out; have := HJ23.out; first | omega | exact Nat.le_refl _⟩, ⟨rx_ HO_9⟩, ⟨by (with_reducible repeat (first | apply Kd.S_alloc | apply Kd.S_drewN | apply Kd.S_drew)); exact HO_10.out⟩, ⟨bx_ BK117⟩, ⟨bx_ BK118⟩, ⟨hx_ HB⟩⟩
                  ·rw [if_neg c33] at H
                   have c33b0 : decide ((Int.tmod (rd l0_3 x13_3) (l0_2.length : Int)) < 0) = false := decide_eq_false c33
                   clear c33
                   (first | rw [c33b0] | (simp only [i64_w, i32_w]; rw [c33b0]) | skip)
                   have H' := am_ H
                   clear H
                   go_wp2
                   go_meet
                   case rel => exact ⟨_, (decide ((Int.tmod (wrap64 (Int.tdiv (rd l0_3 x13_3) 7)) (x9_3.length : Int)) < 0)), (by first | rfl | (simp; done) | (simp [*]; done)), H', ⟨by have := HK1.out; have := HK2.out; have := HK3.out; have := HJ23.out; first | omega | exact Nat.le_refl _⟩, ⟨rx_ HO_9⟩, ⟨by (with_reducible repeat (first | apply Kd.S_alloc | apply Kd.S_drewN | apply Kd.S_drew)); exact HO_10.out⟩, ⟨bx_ BK117⟩, ⟨bx_ BK118⟩, ⟨hx_ HB⟩⟩
                 case rest =>
                  clear HC31
                  try clear c1
                  try clear p1
                  try clear q1
                  try clear hx1
                  try clear c2
                  try clear p2
                  try clear c3
                  try clear c4
                  try clear c5
                  try clear p6
                  try clear c8
                  try clear c11
                  try clear p12
                  try clear q12
                  try clear hx12
                  try clear c14
                  try clear c14b0
                  try clear c15
                  try clear c16
                  try clear c19
                  try clear c21
                  try clear c21b0
                  try clear c22
                  try clear c25
                  try clear c25b0
                  try clear c26
                  try clear c27
                  try clear c27b0
                  try clear c28
                  try clear c28b0
                  try clear c29
                  try clear c29b0
                  try clear c29b1
                  try clear c29b2
                  try clear c30
                  try clear c30b0
                  try clear c30b1
                  try clear c30b2
                  try clear c33
                  try clear c33b0
                  try clear hcz10_0
                  try clear hcz10_1
                  try clear hcz10_2
                  try clear hcz10_3
                  try clear hcz10_4
                  try clear hcz12_0
                  try clear hcz12_1
                  try clear hcz17_0
                  try clear hcz17_1
                  try clear hcz20_0
                  try clear hcz20_1
                  try clear hcz6_0
                  try clear hcz6_1
                  try clear hcz6_2
                  try clear hcz6_3
                  try clear hcz6_4
                  try clear hcz9_0
                  try clear hcz9_1
                  try clear hfz10_0
                  try clear hfz10_1
                  try clear hfz10_2
                  try clear hfz10_3
                  try clear hfz10_4
                  try clear hfz12_0
                  try clear hfz12_1
                  try clear hfz17_0
                  try clear hfz17_1
                  try clear hfz20_0
                  try clear hfz20_1
                  try clear hfz6_0
                  try clear hfz6_1
                  try clear hfz6_2
                  try clear hfz6_3
                  try clear hfz6_4
                  try clear hfz9_0
                  try clear hfz9_1
                  try clear hx127_0
                  try clear hx128_0
                  try clear p127
                  try clear p128
                  try clear p2
                  try clear p6
                  try clear q127
                  try clear q128
                  obtain ⟨kq, x87_30, rfl, HA, HJ30, HO_9, HO_10, BK117, BK118, HB⟩ := hcut
                  cases kq with
                  | zero => exact absurd HA.out (by simp [ferrulelaw07_BallotOne.j4])
                  | succ kj30 =>
                   have H := HA.out
                   clear HA
                   simp only [ferrulelaw07_BallotOne.j4] at H
                   by_cases c34 : x87_30 = true
                   ·subst c34
                    have H1 : (ferrulelaw07_BallotOne.l2 kj30 l0_2 l0_3 a0_4 t119 x9_3 x10_3 (wrap64 (x13_3 + 1)) l0_0 l0_1) = some r := by rw [if_pos rfl] at H; exact H
                    clear H
                    have H := H1
                    clear H1
                    have H' := am_ H
                    clear H
                    go_wp2
                    go_roundg kj30
                    case measure => have := HK1.out; have := HK2.out; have := HK3.out; have := HJ23.out; have := HJ30.out; omega
                    case rel => exact ⟨(x9_3), (x10_3), (wrap64 (x13_3 + 1)), (by first | rfl | (simp; done) | (simp [*]; done)), H', ⟨by have := HK1.out; have := HK2.out; have := HK3.out; have := HJ23.out; have := HJ30.out; omega⟩, ⟨rx_ HO_9⟩, ⟨by (with_reducible repeat (first | apply Kd.S_alloc | apply Kd.S_drewN | apply Kd.S_drew)); exact HO_10.out⟩, ⟨bx_ BK117⟩, ⟨bx_ BK118⟩, ⟨hx_ HB⟩⟩
                   ·replace c34 := Bool.eq_false_iff.mpr c34
                    subst c34
                    have H1 : (if 0 ≤ (Int.tmod (wrap64 (Int.tdiv (rd l0_3 x13_3) 7)) (x9_3.length : Int)) then (if (Int.tmod (wrap64 (Int.tdiv (rd l0_3 x13_3) 7)) (x9_3.length : Int)) < (x9_3.length : Int) then (if 0 ≤ (Int.tmod (rd l0_3 x13_3) (l0_2.length : Int)) then (if (Int.tmod (rd l0_3 x13_3) (l0_2.length : Int)) < (l0_2.length : Int) then ((ballot_Answer.f ((rd_T24 x9_3 (Int.tmod (wrap64 (Int.tdiv (rd l0_3 x13_3) 7)) (x9_3.length : Int))).f0) ((rd_T24 x9_3 (Int.tmod (wrap64 (Int.tdiv (rd l0_3 x13_3) 7)) (x9_3.length : Int))).f1) ((rd_T24 x9_3 (Int.tmod (wrap64 (Int.tdiv (rd l0_3 x13_3) 7)) (x9_3.length : Int))).f2) ((rd_T24 x9_3 (Int.tmod (wrap64 (Int.tdiv (rd l0_3 x13_3) 7)) (x9_3.length : Int))).f3) ((rd_T24 x9_3 (Int.tmod (wrap64 (Int.tdiv (rd l0_3 x13_3) 7)) (x9_3.length : Int))).f4) ((rd_T26 l0_2 (Int.tmod (rd l0_3 x13_3) (l0_2.length : Int))).f0) ((rd_T26 l0_2 (Int.tmod (rd l0_3 x13_3) (l0_2.length : Int))).f1) ((rd_T26 l0_2 (Int.tmod (rd l0_3 x13_3) (l0_2.length : Int))).f2) ((rd_T26 l0_2 (Int.tmod (rd l0_3 x13_3) (l0_2.length : Int))).f3) ((rd_T26 l0_2 (Int.tmod (rd l0_3 x13_3) (l0_2.length : Int))).f4)).bind fun bt131 => ((some (x9_3.set ((Int.tmod (wrap64 (Int.tdiv (rd l0_3 x13_3) 7)) (x9_3.length : Int)) : Int).toNat (⟨bt131.1, bt131.2.1, bt131.2.2.1, bt131.2.2.2.1, bt131.2.2.2.2.1⟩ : S24) : List (S24))).bind fun y138 => (if bt131.2.2.2.2.2 = true then (if ((rd_T26 l0_2 (Int.tmod (rd l0_3 x13_3) (l0_2.length : Int))).f4 = true) then (ferrulelaw07_BallotOne.l2 kj30 l0_2 l0_3 a0_4 t119 y138 x10_3 (wrap64 (x13_3 + 1)) l0_0 l0_1) else (if ((rd_T26 l0_2 (Int.tmod (rd l0_3 x13_3) (l0_2.length : Int))).f0) = a0_4 then ((some (([] : List Int) : List Int)).bind fun y141 => (if (Int.tmod (rd l0_3 x13_3) (l0_2.length : Int)) < (x10_3.length : Int) then (if y141.length + (rd_L4 x10_3 (Int.tmod (rd l0_3 x13_3) (l0_2.length : Int))).length < 17592186044416 then ((some (y141 ++ (rd_L4 x10_3 (Int.tmod (rd l0_3 x13_3) (l0_2.length : Int))) : List Int)).bind fun y145 => (if (Int.tmod (wrap64 (Int.tdiv (rd l0_3 x13_3) 7)) (x9_3.length : Int)) < (l0_0.length : Int) then (if y145.length < 17592186044416 then (ferrulelaw07_BallotOne.l2 kj30 l0_2 l0_3 a0_4 t119 y138 (x10_3.set ((Int.tmod (rd l0_3 x13_3) (l0_2.length : Int)) : Int).toNat (y145 ++ [rd l0_0 (Int.tmod (wrap64 (Int.tdiv (rd l0_3 x13_3) 7)) (x9_3.length : Int))])) (wrap64 (x13_3 + 1)) l0_0 l0_1) else (none)) else (none))) else (none)) else (none))) else (ferrulelaw07_BallotOne.l2 kj30 l0_2 l0_3 a0_4 t119 y138 x10_3 (wrap64 (x13_3 + 1)) l0_0 l0_1))) else (ferrulelaw07_BallotOne.l2 kj30 l0_2 l0_3 a0_4 t119 y138 x10_3 (wrap64 (x13_3 + 1)) l0_0 l0_1)))) else (none)) else (none)) else (none)) else (none)) = some r := by rw [if_neg (show ¬ (false = true) by decide)] at H; exact H
                    clear H
                    have H := H1
                    clear H1
                    obtain ⟨ji35, hji35⟩ : ∃ j_ : Int, (Int.tmod (wrap64 (Int.tdiv (rd l0_3 x13_3) 7)) (x9_3.length : Int)) = j_ := ⟨_, rfl⟩
                    replace H : (if 0 ≤ (ji35) then (if (ji35) < (x9_3.length : Int) then (if 0 ≤ (Int.tmod (rd l0_3 x13_3) (l0_2.length : Int)) then (if (Int.tmod (rd l0_3 x13_3) (l0_2.length : Int)) < (l0_2.length : Int) then ((ballot_Answer.f ((rd_T24 x9_3 (ji35)).f0) ((rd_T24 x9_3 (ji35)).f1) ((rd_T24 x9_3 (ji35)).f2) ((rd_T24 x9_3 (ji35)).f3) ((rd_T24 x9_3 (ji35)).f4) ((rd_T26 l0_2 (Int.tmod (rd l0_3 x13_3) (l0_2.length : Int))).f0) ((rd_T26 l0_2 (Int.tmod (rd l0_3 x13_3) (l0_2.length : Int))).f1) ((rd_T26 l0_2 (Int.tmod (rd l0_3 x13_3) (l0_2.length : Int))).f2) ((rd_T26 l0_2 (Int.tmod (rd l0_3 x13_3) (l0_2.length : Int))).f3) ((rd_T26 l0_2 (Int.tmod (rd l0_3 x13_3) (l0_2.length : Int))).f4)).bind fun bt131 => ((some (x9_3.set ((ji35) : Int).toNat (⟨bt131.1, bt131.2.1, bt131.2.2.1, bt131.2.2.2.1, bt131.2.2.2.2.1⟩ : S24) : List (S24))).bind fun y138 => (if bt131.2.2.2.2.2 = true then (if ((rd_T26 l0_2 (Int.tmod (rd l0_3 x13_3) (l0_2.length : Int))).f4 = true) then (ferrulelaw07_BallotOne.l2 kj30 l0_2 l0_3 a0_4 t119 y138 x10_3 (wrap64 (x13_3 + 1)) l0_0 l0_1) else (if ((rd_T26 l0_2 (Int.tmod (rd l0_3 x13_3) (l0_2.length : Int))).f0) = a0_4 then ((some (([] : List Int) : List Int)).bind fun y141 => (if (Int.tmod (rd l0_3 x13_3) (l0_2.length : Int)) < (x10_3.length : Int) then (if y141.length + (rd_L4 x10_3 (Int.tmod (rd l0_3 x13_3) (l0_2.length : Int))).length < 17592186044416 then ((some (y141 ++ (rd_L4 x10_3 (Int.tmod (rd l0_3 x13_3) (l0_2.length : Int))) : List Int)).bind fun y145 => (if (ji35) < (l0_0.length : Int) then (if y145.length < 17592186044416 then (ferrulelaw07_BallotOne.l2 kj30 l0_2 l0_3 a0_4 t119 y138 (x10_3.set ((Int.tmod (rd l0_3 x13_3) (l0_2.length : Int)) : Int).toNat (y145 ++ [rd l0_0 (ji35)])) (wrap64 (x13_3 + 1)) l0_0 l0_1) else (none)) else (none))) else (none)) else (none))) else (ferrulelaw07_BallotOne.l2 kj30 l0_2 l0_3 a0_4 t119 y138 x10_3 (wrap64 (x13_3 + 1)) l0_0 l0_1))) else (ferrulelaw07_BallotOne.l2 kj30 l0_2 l0_3 a0_4 t119 y138 x10_3 (wrap64 (x13_3 + 1)) l0_0 l0_1)))) else (none)) else (none)) else (none)) else (none)) = some r := by first | (rw [hji35] at H; exact H) | (simp only [hji35] at H ⊢; exact H)
                    by_cases c36 : 0 ≤ (ji35)
                    ·rw [if_pos c36] at H
                     have c36b0 : decide (0 ≤ (ji35)) = true := decide_eq_true c36
                     clear c36
                     by_cases c37 : (ji35) < (x9_3.length : Int)
                     ·rw [if_pos c37] at H
                      have c37b0 : decide ((ji35) < (x9_3.length : Int)) = true := decide_eq_true c37
                      clear c37
                      obtain ⟨ji38, hji38⟩ : ∃ j_ : Int, (Int.tmod (rd l0_3 x13_3) (l0_2.length : Int)) = j_ := ⟨_, rfl⟩
                      replace H : (if 0 ≤ (ji38) then (if (ji38) < (l0_2.length : Int) then ((ballot_Answer.f ((rd_T24 x9_3 (ji35)).f0) ((rd_T24 x9_3 (ji35)).f1) ((rd_T24 x9_3 (ji35)).f2) ((rd_T24 x9_3 (ji35)).f3) ((rd_T24 x9_3 (ji35)).f4) ((rd_T26 l0_2 (ji38)).f0) ((rd_T26 l0_2 (ji38)).f1) ((rd_T26 l0_2 (ji38)).f2) ((rd_T26 l0_2 (ji38)).f3) ((rd_T26 l0_2 (ji38)).f4)).bind fun bt131 => ((some (x9_3.set ((ji35) : Int).toNat (⟨bt131.1, bt131.2.1, bt131.2.2.1, bt131.2.2.2.1, bt131.2.2.2.2.1⟩ : S24) : List (S24))).bind fun y138 => (if bt131.2.2.2.2.2 = true then (if ((rd_T26 l0_2 (ji38)).f4 = true) then (ferrulelaw07_BallotOne.l2 kj30 l0_2 l0_3 a0_4 t119 y138 x10_3 (wrap64 (x13_3 + 1)) l0_0 l0_1) else (if ((rd_T26 l0_2 (ji38)).f0) = a0_4 then ((some (([] : List Int) : List Int)).bind fun y141 => (if (ji38) < (x10_3.length : Int) then (if y141.length + (rd_L4 x10_3 (ji38)).length < 17592186044416 then ((some (y141 ++ (rd_L4 x10_3 (ji38)) : List Int)).bind fun y145 => (if (ji35) < (l0_0.length : Int) then (if y145.length < 17592186044416 then (ferrulelaw07_BallotOne.l2 kj30 l0_2 l0_3 a0_4 t119 y138 (x10_3.set ((ji38) : Int).toNat (y145 ++ [rd l0_0 (ji35)])) (wrap64 (x13_3 + 1)) l0_0 l0_1) else (none)) else (none))) else (none)) else (none))) else (ferrulelaw07_BallotOne.l2 kj30 l0_2 l0_3 a0_4 t119 y138 x10_3 (wrap64 (x13_3 + 1)) l0_0 l0_1))) else (ferrulelaw07_BallotOne.l2 kj30 l0_2 l0_3 a0_4 t119 y138 x10_3 (wrap64 (x13_3 + 1)) l0_0 l0_1)))) else (none)) else (none)) = some r := by first | (rw [hji38] at H; exact H) | (simp only [hji38] at H ⊢; exact H)
                      by_cases c39 : 0 ≤ (ji38)
                      ·rw [if_pos c39] at H
                       have c39b0 : decide (0 ≤ (ji38)) = true := decide_eq_true c39
                       clear c39
                       by_cases c40 : (ji38) < (l0_2.length : Int)
                       ·rw [if_pos c40] at H
                        have c40b0 : decide ((ji38) < (l0_2.length : Int)) = true := decide_eq_true c40
                        clear c40
                        replace H := Option.bind_eq_some_iff.mp H
                        obtain ⟨⟨t131, t132, t133, t134, t135, t136⟩, A410, H⟩ := H
                        replace H : ((some (x9_3.set ((ji35) : Int).toNat (⟨t131, t132, t133, t134, t135⟩ : S24) : List (S24))).bind fun y138 => (if t136 = true then (if ((rd_T26 l0_2 (ji38)).f4 = true) then (ferrulelaw07_BallotOne.l2 kj30 l0_2 l0_3 a0_4 t119 y138 x10_3 (wrap64 (x13_3 + 1)) l0_0 l0_1) else (if ((rd_T26 l0_2 (ji38)).f0) = a0_4 then ((some (([] : List Int) : List Int)).bind fun y141 => (if (ji38) < (x10_3.length : Int) then (if y141.length + (rd_L4 x10_3 (ji38)).length < 17592186044416 then ((some (y141 ++ (rd_L4 x10_3 (ji38)) : List Int)).bind fun y145 => (if (ji35) < (l0_0.length : Int) then (if y145.length < 17592186044416 then (ferrulelaw07_BallotOne.l2 kj30 l0_2 l0_3 a0_4 t119 y138 (x10_3.set ((ji38) : Int).toNat (y145 ++ [rd l0_0 (ji35)])) (wrap64 (x13_3 + 1)) l0_0 l0_1) else (none)) else (none))) else (none)) else (none))) else (ferrulelaw07_BallotOne.l2 kj30 l0_2 l0_3 a0_4 t119 y138 x10_3 (wrap64 (x13_3 + 1)) l0_0 l0_1))) else (ferrulelaw07_BallotOne.l2 kj30 l0_2 l0_3 a0_4 t119 y138 x10_3 (wrap64 (x13_3 + 1)) l0_0 l0_1))) = some r := H
                        have A41 := am_ A410
                        clear A410
                        obtain ⟨y138, hy138⟩ : ∃ y_ : List (S24), y_ = (x9_3.set ((ji35) : Int).toNat (⟨t131, t132, t133, t134, t135⟩ : S24)) := ⟨_, rfl⟩
                        replace H : (if t136 = true then (if ((rd_T26 l0_2 (ji38)).f4 = true) then (ferrulelaw07_BallotOne.l2 kj30 l0_2 l0_3 a0_4 t119 y138 x10_3 (wrap64 (x13_3 + 1)) l0_0 l0_1) else (if ((rd_T26 l0_2 (ji38)).f0) = a0_4 then ((some (([] : List Int) : List Int)).bind fun y141 => (if (ji38) < (x10_3.length : Int) then (if y141.length + (rd_L4 x10_3 (ji38)).length < 17592186044416 then ((some (y141 ++ (rd_L4 x10_3 (ji38)) : List Int)).bind fun y145 => (if (ji35) < (l0_0.length : Int) then (if y145.length < 17592186044416 then (ferrulelaw07_BallotOne.l2 kj30 l0_2 l0_3 a0_4 t119 y138 (x10_3.set ((ji38) : Int).toNat (y145 ++ [rd l0_0 (ji35)])) (wrap64 (x13_3 + 1)) l0_0 l0_1) else (none)) else (none))) else (none)) else (none))) else (ferrulelaw07_BallotOne.l2 kj30 l0_2 l0_3 a0_4 t119 y138 x10_3 (wrap64 (x13_3 + 1)) l0_0 l0_1))) else (ferrulelaw07_BallotOne.l2 kj30 l0_2 l0_3 a0_4 t119 y138 x10_3 (wrap64 (x13_3 + 1)) l0_0 l0_1)) = some r := by first | (rw [hy138]; with_reducible exact H) | (have H2_ := (Option.bind_some _ _).symm.trans H; rw [hy138]; with_reducible exact H2_) | (have H2_ := (Option.bind_some _ _).symm.trans H; with_reducible exact H2_) | with_reducible exact H | (rw [hy138]; exact H) | exact H
                        have Ny138 := am_ hy138
                        clear hy138
                        have HH := am_ H
                        clear H
                        try go_wp2
                        have n0_ := am_ (Kd.R_drew HO_9.out)
                        have n1_ := am_ (Kd.S_drew HO_10.out)
                        have n2_ := am_ (blk_drew BK117.out)
                        have n3_ := am_ (blk_drew BK118.out)
                        have n4_ := am_ (below_drew1 HB.out)
                        clear HO_9
                        clear HO_10
                        clear BK117
                        clear BK118
                        clear HB
                        have HO_9 := n0_
                        have HO_10 := n1_
                        have BK117 := n2_
                        have BK118 := n3_
                        have HB := n4_
                        clear n0_ n1_ n2_ n3_ n4_
                        have p129 : 0 ≤ ((ji35) : Int) := of_decide_eq_true (by first | (with_reducible assumption) | assumption)
                        have q129 : (ji35) < (x9_3.length : Int) := of_decide_eq_true (by first | (with_reducible assumption) | assumption)
                        obtain ⟨ad129, e129, hx129_0, hx129_1, hx129_2, hx129_3, hx129_4⟩ := at_T24 (Kd.R_reads' HO_9.out).2.2 (ji35) p129 q129
                        cases e129
                        replace p129 := eq_true p129
                        replace q129 := eq_true q129
                        have p130 : 0 ≤ ((ji38) : Int) := of_decide_eq_true (by first | (with_reducible assumption) | assumption)
                        have q130 : (ji38) < (l0_2.length : Int) := of_decide_eq_true (by first | (with_reducible assumption) | assumption)
                        obtain ⟨ad130, e130, hx130_0, hx130_1, hx130_2, hx130_3, hx130_4⟩ := at_T26 HR0_2.out (ji38) p130 q130
                        have hw130_4 := hx130_4
                        have hw130_3 := hx130_3
                        have hw130_2 := hx130_2
                        have hw130_1 := hx130_1
                        have hw130_0 := hx130_0
                        cases e130
                        replace hx130_0 := (HB.out.cell (World.block_lt_of_cell? w _ hx130_0)).trans hx130_0
                        replace hx130_1 := (HB.out.cell (World.block_lt_of_cell? w _ hx130_1)).trans hx130_1
                        replace hx130_2 := (HB.out.cell (World.block_lt_of_cell? w _ hx130_2)).trans hx130_2
                        replace hx130_3 := (HB.out.cell (World.block_lt_of_cell? w _ hx130_3)).trans hx130_3
                        replace hx130_4 := (HB.out.cell (World.block_lt_of_cell? w _ hx130_4)).trans hx130_4
                        replace p130 := eq_true p130
                        replace q130 := eq_true q130
                        refine start_ (n := 15) (S := fun w' => w'.cell? (ad129.add (((ji35)).toNat * 5)) = some (.int .u64 ((rd_T24 x9_3 (ji35)).f0)) ∧ w'.cell? ⟨(ad129.add (((ji35)).toNat * 5)).block, (ad129.add (((ji35)).toNat * 5)).off + 1, none⟩ = some (.int .u64 ((rd_T24 x9_3 (ji35)).f1)) ∧ w'.cell? ⟨(ad129.add (((ji35)).toNat * 5)).block, (ad129.add (((ji35)).toNat * 5)).off + 2, none⟩ = some (.int .u64 ((rd_T24 x9_3 (ji35)).f2)) ∧ w'.cell? ⟨(ad129.add (((ji35)).toNat * 5)).block, (ad129.add (((ji35)).toNat * 5)).off + 3, none⟩ = some (.int .u64 ((rd_T24 x9_3 (ji35)).f3)) ∧ w'.cell? ⟨(ad129.add (((ji35)).toNat * 5)).block, (ad129.add (((ji35)).toNat * 5)).off + 4, none⟩ = some (.bool ((rd_T24 x9_3 (ji35)).f4)) ∧ w'.cell? (ad130.add (((ji38)).toNat * 5)) = some (.int .u64 ((rd_T26 l0_2 (ji38)).f0)) ∧ w'.cell? ⟨(ad130.add (((ji38)).toNat * 5)).block, (ad130.add (((ji38)).toNat * 5)).off + 1, none⟩ = some (.int .u64 ((rd_T26 l0_2 (ji38)).f1)) ∧ w'.cell? ⟨(ad130.add (((ji38)).toNat * 5)).block, (ad130.add (((ji38)).toNat * 5)).off + 2, none⟩ = some (.int .u64 ((rd_T26 l0_2 (ji38)).f2)) ∧ w'.cell? ⟨(ad130.add (((ji38)).toNat * 5)).block, (ad130.add (((ji38)).toNat * 5)).off + 3, none⟩ = some (.int .u64 ((rd_T26 l0_2 (ji38)).f3)) ∧ w'.cell? ⟨(ad130.add (((ji38)).toNat * 5)).block, (ad130.add (((ji38)).toNat * 5)).off + 4, none⟩ = some (.bool ((rd_T26 l0_2 (ji38)).f4))) (ds := []) bN0_ (by kernel_rfl) rfl rfl ⟨hx129_0, hx129_1, hx129_2, hx129_3, hx129_4, ((HB.out.cell (World.block_lt_of_cell? w _ hw130_0)).trans hw130_0), ((HB.out.cell (World.block_lt_of_cell? w _ hw130_1)).trans hw130_1), ((HB.out.cell (World.block_lt_of_cell? w _ hw130_2)).trans hw130_2), ((HB.out.cell (World.block_lt_of_cell? w _ hw130_3)).trans hw130_3), ((HB.out.cell (World.block_lt_of_cell? w _ hw130_4)).trans hw130_4)⟩ (fun hHeld => ?_); refine with_tabW ferrulelaw07_BallotOne.tab25 ferrulelaw07_BallotOne.bits25 (fun HT_ HW_ => ?_)
                        generalize wc.drew = w106 at HO_9 HO_10 BK117 BK118 HB hx129_0 hx129_1 hx129_2 hx129_3 hx129_4 hx130_0 hx130_1 hx130_2 hx130_3 hx130_4 hHeld ⊢
                        refine pure_ (i := 0) (N := some 89) (v := ?_) (a' := ?_) bN1_ rfl rfl (any_of HT_.out (by kernel_rfl)) (fun _ _ _ h => h) (Or.inl ⟨by rfl, ?_⟩) ?_ ?_; rotate_left; (intro w'; go_simp; with_reducible rfl); rotate_left; (simp only [Act.put, List.setIfInBounds_toArray, List.set_cons_zero, List.set_cons_succ, i64_w, i32_w]; rfl)
                        refine pure_ (i := 1) (N := some 90) (v := ?_) (a' := ?_) bN2_ rfl rfl (any_of HT_.out (by kernel_rfl)) (fun _ _ _ h => h) (Or.inl ⟨by rfl, ?_⟩) ?_ ?_; rotate_left; (intro w'; go_simp; with_reducible rfl); rotate_left; (simp only [Act.put, List.setIfInBounds_toArray, List.set_cons_zero, List.set_cons_succ, i64_w, i32_w]; rfl)
                        refine pure_ (i := 2) (N := some 91) (v := ?_) (a' := ?_) bN3_ rfl rfl (any_of HT_.out (by kernel_rfl)) (fun _ _ _ h => h) (Or.inl ⟨by rfl, ?_⟩) ?_ ?_; rotate_left; (intro w'; go_simp; with_reducible rfl); rotate_left; (simp only [Act.put, List.setIfInBounds_toArray, List.set_cons_zero, List.set_cons_succ, i64_w, i32_w]; rfl)
                        refine pure_ (i := 4) (N := some 93) (v := ?_) (a' := ?_) bN4_ rfl rfl (any_of HT_.out (by kernel_rfl)) (fun _ _ _ h => h) (Or.inl ⟨by rfl, ?_⟩) ?_ ?_; rotate_left; (intro w'; go_simp; with_reducible rfl); rotate_left; (simp only [Act.put, List.setIfInBounds_toArray, List.set_cons_zero, List.set_cons_succ, i64_w, i32_w]; rfl)
                        refine pure_ (i := 5) (N := some 94) (v := ?_) (a' := ?_) bN5_ rfl rfl (any_of HT_.out (by kernel_rfl)) (fun _ _ _ h => h) (Or.inl ⟨by rfl, ?_⟩) ?_ ?_; rotate_left; (intro w'; go_simp; with_reducible rfl); rotate_left; (simp only [Act.put, List.setIfInBounds_toArray, List.set_cons_zero, List.set_cons_succ, i64_w, i32_w]; rfl)
                        refine pure_ (i := 6) (N := some 95) (v := ?_) (a' := ?_) bN6_ rfl rfl (any_of HT_.out (by kernel_rfl)) (fun _ _ _ h => h) (Or.inl ⟨by rfl, ?_⟩) ?_ ?_; rotate_left; (intro w'; go_simp; with_reducible rfl); rotate_left; (simp only [Act.put, List.setIfInBounds_toArray, List.set_cons_zero, List.set_cons_succ, i64_w, i32_w]; rfl)
                        refine take_ (i := 3) (N := some 92) (v := ?_) (a' := ?_) bN7_ rfl rfl (take_ofW HT_.out HW_.out (by kernel_rfl)) (fun _ _ _ h => h) (Or.inl ⟨by rfl, ?_⟩) hHeld ?_ ?_; rotate_left; (rintro w' ⟨s0, s1, s2, s3, s4, s5, s6, s7, s8, s9⟩; go_simp; with_reducible rfl); rotate_left; (simp only [Act.put, List.setIfInBounds_toArray, List.set_cons_zero, List.set_cons_succ, i64_w, i32_w]; rfl)
                        refine take_ (i := 7) (N := some 96) (v := ?_) (a' := ?_) bN8_ rfl rfl (take_ofW HT_.out HW_.out (by kernel_rfl)) (fun _ _ _ h => h) (Or.inl ⟨by rfl, ?_⟩) hHeld ?_ ?_; rotate_left; (rintro w' ⟨s0, s1, s2, s3, s4, s5, s6, s7, s8, s9⟩; go_simp; with_reducible rfl); rotate_left; (simp only [Act.put, List.setIfInBounds_toArray, List.set_cons_zero, List.set_cons_succ, i64_w, i32_w]; rfl)
                        refine join_ (σ := Nat) 2 bN9_ (fun s_ => [(97, .tuple #[.agg #[.int .u64 t131, .int .u64 t132, .int .u64 t133, .int .u64 t134, .bool t135], .bool t136]), (16, .pointer (some ⟨s_, 0, none⟩)), (88, .tuple #[.agg #[.int .u64 t131, .int .u64 t132, .int .u64 t133, .int .u64 t134, .bool t135], .bool t136]), (98, .agg #[.int .u64 t131, .int .u64 t132, .int .u64 t133, .int .u64 t134, .bool t135]), (99, .bool t136)]) (fun s_ w' => (w'.cell? (ad129.add (((ji35)).toNat * 5)) = some (.int .u64 ((rd_T24 x9_3 (ji35)).f0)) ∧ w'.cell? ⟨(ad129.add (((ji35)).toNat * 5)).block, (ad129.add (((ji35)).toNat * 5)).off + 1, none⟩ = some (.int .u64 ((rd_T24 x9_3 (ji35)).f1)) ∧ w'.cell? ⟨(ad129.add (((ji35)).toNat * 5)).block, (ad129.add (((ji35)).toNat * 5)).off + 2, none⟩ = some (.int .u64 ((rd_T24 x9_3 (ji35)).f2)) ∧ w'.cell? ⟨(ad129.add (((ji35)).toNat * 5)).block, (ad129.add (((ji35)).toNat * 5)).off + 3, none⟩ = some (.int .u64 ((rd_T24 x9_3 (ji35)).f3)) ∧ w'.cell? ⟨(ad129.add (((ji35)).toNat * 5)).block, (ad129.add (((ji35)).toNat * 5)).off + 4, none⟩ = some (.bool ((rd_T24 x9_3 (ji35)).f4)) ∧ w'.cell? (ad130.add (((ji38)).toNat * 5)) = some (.int .u64 ((rd_T26 l0_2 (ji38)).f0)) ∧ w'.cell? ⟨(ad130.add (((ji38)).toNat * 5)).block, (ad130.add (((ji38)).toNat * 5)).off + 1, none⟩ = some (.int .u64 ((rd_T26 l0_2 (ji38)).f1)) ∧ w'.cell? ⟨(ad130.add (((ji38)).toNat * 5)).block, (ad130.add (((ji38)).toNat * 5)).off + 2, none⟩ = some (.int .u64 ((rd_T26 l0_2 (ji38)).f2)) ∧ w'.cell? ⟨(ad130.add (((ji38)).toNat * 5)).block, (ad130.add (((ji38)).toNat * 5)).off + 3, none⟩ = some (.int .u64 ((rd_T26 l0_2 (ji38)).f3)) ∧ w'.cell? ⟨(ad130.add (((ji38)).toNat * 5)).block, (ad130.add (((ji38)).toNat * 5)).off + 4, none⟩ = some (.bool ((rd_T26 l0_2 (ji38)).f4))) ∧ (Kd.S (Kd.slice 22 (Kd.int .u64)) 33 w' w.heap.size (fun _ => True) u10 x10_3) ∧ (Kd.R k24 24 w' w.heap.size (fun k_ => k_ ≠ s_) (.slice (some ad129) x9_3.length co32) x9_3) ∧ (w'.heap[gb117]? = some (.cells #[.slice A0_0 l0_0.length c0_0, .slice A0_1 l0_1.length c0_1, .slice (some ad130) l0_2.length c0_2, .slice (some ad127) l0_3.length c0_3, .int .u64 a0_4] 38 (0, 0))) ∧ (w'.heap[gb118]? = some (.cells #[.slice A0_0 l0_0.length c0_0, .slice A0_1 l0_1.length c0_1] 35 (0, 0))) ∧ (w'.heap[s_]? = some (.cells #[.int .u64 0, .int .u64 0, .int .u64 0, .int .u64 0, .bool false] 24 (0, 0))) ∧ (w.heap.size ≤ s_) ∧ (w.heap.size ≤ s_) ∧ (gb117 ≠ s_) ∧ (s_ ≠ gb117) ∧ (gb118 ≠ s_) ∧ (s_ ≠ gb118) ∧ (Below w.heap.size w w')) ?_ ?_
                        rotate_left
                        ·intro hCont
                         refine two_ (i := 8) (j := 12) (Ni := some 97) (Nj := some 16) bN10_ bN11_ rfl rfl rfl rfl (two_of HT_.out (by kernel_rfl)) (by decide) (by decide) (fun K hK => ?_) (fun K hK => ?_)
                         ·skip
                          refine goes_ Try.func9 (by kernel_rfl) rfl #[.agg #[.int .u64 ((rd_T24 x9_3 (ji35)).f0), .int .u64 ((rd_T24 x9_3 (ji35)).f1), .int .u64 ((rd_T24 x9_3 (ji35)).f2), .int .u64 ((rd_T24 x9_3 (ji35)).f3), .bool ((rd_T24 x9_3 (ji35)).f4)], .agg #[.int .u64 ((rd_T26 l0_2 (ji38)).f0), .int .u64 ((rd_T26 l0_2 (ji38)).f1), .int .u64 ((rd_T26 l0_2 (ji38)).f2), .int .u64 ((rd_T26 l0_2 (ji38)).f3), .bool ((rd_T26 l0_2 (ji38)).f4)]] (by rfl) rfl rfl (by (try simp only [List.map_toArray, List.map_cons, List.map_nil]); first | done | (simp only [hji35, hji38]; rfl) | rfl | (simp only [List.length_drop, List.length_take]; rfl)) ?_
                          with_reducible refine (ballot_Answer.calls ((rd_T24 x9_3 (ji35)).f0) ((rd_T24 x9_3 (ji35)).f1) ((rd_T24 x9_3 (ji35)).f2) ((rd_T24 x9_3 (ji35)).f3) ((rd_T24 x9_3 (ji35)).f4) ((rd_T26 l0_2 (ji38)).f0) ((rd_T26 l0_2 (ji38)).f1) ((rd_T26 l0_2 (ji38)).f2) ((rd_T26 l0_2 (ji38)).f3) ((rd_T26 l0_2 (ji38)).f4) t131 t132 t133 t134 t135 t136 _ A41.out).mono ?_
                          rintro e w107 ⟨rfl, hb⟩
                          have HS0_ := (hb.cell (World.block_lt_of_cell? _ _ (hHeld.1))).trans (hHeld.1)
                          have HS1_ := (hb.cell (World.block_lt_of_cell? _ _ (hHeld.2.1))).trans (hHeld.2.1)
                          have HS2_ := (hb.cell (World.block_lt_of_cell? _ _ (hHeld.2.2.1))).trans (hHeld.2.2.1)
                          have HS3_ := (hb.cell (World.block_lt_of_cell? _ _ (hHeld.2.2.2.1))).trans (hHeld.2.2.2.1)
                          have HS4_ := (hb.cell (World.block_lt_of_cell? _ _ (hHeld.2.2.2.2.1))).trans (hHeld.2.2.2.2.1)
                          refine ⟨_, rfl, ?_⟩
                          have n0_ := am_ (Kd.R_below (rx_ HO_9) hb)
                          have n1_ := am_ (Kd.S_below (by (with_reducible repeat (first | apply Kd.S_alloc | apply Kd.S_drewN | apply Kd.S_drew)); exact HO_10.out) hb)
                          have n2_ := am_ (blk_below (g := gb117) (o := .cells #[.slice A0_0 l0_0.length c0_0, .slice A0_1 l0_1.length c0_1, .slice (some ad130) l0_2.length c0_2, .slice (some ad127) l0_3.length c0_3, .int .u64 a0_4] 38 (0, 0)) (bx_ BK117) hb)
                          have n3_ := am_ (blk_below (g := gb118) (o := .cells #[.slice A0_0 l0_0.length c0_0, .slice A0_1 l0_1.length c0_1] 35 (0, 0)) (bx_ BK118) hb)
                          have n4_ := am_ (below_step (hx_ HB) hb)
                          clear HO_9
                          clear HO_10
                          clear BK117
                          clear BK118
                          clear HB
                          have HO_9 := n0_
                          have HO_10 := n1_
                          have BK117 := n2_
                          have BK118 := n3_
                          have HB := n4_
                          clear n0_ n1_ n2_ n3_ n4_
                          (try clear hb)
                          (try clear hb2)
                          (try clear hk)
                          (try clear hi)
                          refine hK.out _ _ ⟨HS0_, HS1_, HS2_, HS3_, HS4_, ((HB.out.cell (World.block_lt_of_cell? w _ hw130_0)).trans hw130_0), ((HB.out.cell (World.block_lt_of_cell? w _ hw130_1)).trans hw130_1), ((HB.out.cell (World.block_lt_of_cell? w _ hw130_2)).trans hw130_2), ((HB.out.cell (World.block_lt_of_cell? w _ hw130_3)).trans hw130_3), ((HB.out.cell (World.block_lt_of_cell? w _ hw130_4)).trans hw130_4)⟩ (fun hHeld => ?_)
                          clear hK K
                          refine norm_ (a' := ?_) ?_ ?_
                          rotate_left
                          ·show Act.put _ (some 97) _ = _
                           simp only [Act.put, List.setIfInBounds_toArray, List.set_cons_zero, List.set_cons_succ, i64_w, i32_w]
                           rfl
                          refine pure_ (i := 9) (N := some 88) (v := ?_) (a' := ?_) bN12_ rfl rfl (any_of HT_.out (by kernel_rfl)) (fun _ _ _ h => h) (Or.inl ⟨by rfl, ?_⟩) ?_ ?_; rotate_left; (intro w'; go_simp; with_reducible rfl); rotate_left; (simp only [Act.put, List.setIfInBounds_toArray, List.set_cons_zero, List.set_cons_succ, i64_w, i32_w]; rfl)
                          refine pure_ (i := 10) (N := some 98) (v := ?_) (a' := ?_) bN13_ rfl rfl (any_of HT_.out (by kernel_rfl)) (fun _ _ _ h => h) (Or.inl ⟨by rfl, ?_⟩) ?_ ?_; rotate_left; (intro w'; go_simp; with_reducible rfl); rotate_left; (simp only [Act.put, List.setIfInBounds_toArray, List.set_cons_zero, List.set_cons_succ, i64_w, i32_w]; rfl)
                          refine pure_ (i := 11) (N := some 99) (v := ?_) (a' := ?_) bN14_ rfl rfl (any_of HT_.out (by kernel_rfl)) (fun _ _ _ h => h) (Or.inl ⟨by rfl, ?_⟩) ?_ ?_; rotate_left; (intro w'; go_simp; with_reducible rfl); rotate_left; (simp only [Act.put, List.setIfInBounds_toArray, List.set_cons_zero, List.set_cons_succ, i64_w, i32_w]; rfl)
                          refine one_ (i := 12) (N := some 16) bN9_ rfl rfl (one_of HT_.out (by kernel_rfl)) (by decide) (fun K hK => ?_)
                          refine box_step ?hg (N := 16) ?hd (cs := #[.int .u64 0, .int .u64 0, .int .u64 0, .int .u64 0, .bool false]) (t := 24) ?hr ?_; (case hd => rfl); (case hg => rfl); (case hr => first | (go_simp; done) | (go_simp; rfl))
                          intro gb137 hg w108 hbox hb
                          have HS0_ := (hb.cell (World.block_lt_of_cell? _ _ (hHeld.1))).trans (hHeld.1)
                          have HS1_ := (hb.cell (World.block_lt_of_cell? _ _ (hHeld.2.1))).trans (hHeld.2.1)
                          have HS2_ := (hb.cell (World.block_lt_of_cell? _ _ (hHeld.2.2.1))).trans (hHeld.2.2.1)
                          have HS3_ := (hb.cell (World.block_lt_of_cell? _ _ (hHeld.2.2.2.1))).trans (hHeld.2.2.2.1)
                          have HS4_ := (hb.cell (World.block_lt_of_cell? _ _ (hHeld.2.2.2.2.1))).trans (hHeld.2.2.2.2.1)
                          have n0_ := am_ (Kd.R_below (Kd.R_elderB (rx_ HO_9) gb137 (Nat.le_of_eq hg.symm)) hb)
                          have n1_ := am_ (Kd.S_below (by (with_reducible repeat (first | apply Kd.S_alloc | apply Kd.S_drewN | apply Kd.S_drew)); exact HO_10.out) hb)
                          have n2_ := am_ (blk_below (g := gb117) (o := .cells #[.slice A0_0 l0_0.length c0_0, .slice A0_1 l0_1.length c0_1, .slice (some ad130) l0_2.length c0_2, .slice (some ad127) l0_3.length c0_3, .int .u64 a0_4] 38 (0, 0)) (bx_ BK117) hb)
                          have n3_ := am_ (blk_below (g := gb118) (o := .cells #[.slice A0_0 l0_0.length c0_0, .slice A0_1 l0_1.length c0_1] 35 (0, 0)) (bx_ BK118) hb)
                          have n4_ := am_ (below_step (hx_ HB) hb)
                          have n5_ := am_ (hbox)
                          have n6_ := am_ ((by rw [hg]; exact (below_size (hx_ HB)) : w.heap.size ≤ gb137))
                          have n7_ := am_ ((by rw [hg]; exact (below_size (hx_ HB)) : w.heap.size ≤ gb137))
                          have n8_ := am_ ((by rw [hg]; exact Nat.ne_of_lt (blk_lt (g := gb117) (o := .cells #[.slice A0_0 l0_0.length c0_0, .slice A0_1 l0_1.length c0_1, .slice (some ad130) l0_2.length c0_2, .slice (some ad127) l0_3.length c0_3, .int .u64 a0_4] 38 (0, 0)) (bx_ BK117)) : gb117 ≠ gb137))
                          have n9_ := am_ ((by rw [hg]; exact Nat.ne_of_gt (blk_lt (g := gb117) (o := .cells #[.slice A0_0 l0_0.length c0_0, .slice A0_1 l0_1.length c0_1, .slice (some ad130) l0_2.length c0_2, .slice (some ad127) l0_3.length c0_3, .int .u64 a0_4] 38 (0, 0)) (bx_ BK117)) : gb137 ≠ gb117))
                          have n10_ := am_ ((by rw [hg]; exact Nat.ne_of_lt (blk_lt (g := gb118) (o := .cells #[.slice A0_0 l0_0.length c0_0, .slice A0_1 l0_1.length c0_1] 35 (0, 0)) (bx_ BK118)) : gb118 ≠ gb137))
                          have n11_ := am_ ((by rw [hg]; exact Nat.ne_of_gt (blk_lt (g := gb118) (o := .cells #[.slice A0_0 l0_0.length c0_0, .slice A0_1 l0_1.length c0_1] 35 (0, 0)) (bx_ BK118)) : gb137 ≠ gb118))
                          clear HO_9
                          clear HO_10
                          clear BK117
                          clear BK118
                          clear HB
                          have HO_9 := n0_
                          have HO_10 := n1_
                          have BK117 := n2_
                          have BK118 := n3_
                          have HB := n4_
                          have BK137 := n5_
                          have GW137 := n6_
                          have GE137 := n7_
                          have NB117_137 := n8_
                          have NB137_117 := n9_
                          have NB118_137 := n10_
                          have NB137_118 := n11_
                          clear n0_ n1_ n2_ n3_ n4_ n5_ n6_ n7_ n8_ n9_ n10_ n11_
                          clear hb hbox hg
                          refine hK.out _ _ ⟨HS0_, HS1_, HS2_, HS3_, HS4_, ((HB.out.cell (World.block_lt_of_cell? w _ hw130_0)).trans hw130_0), ((HB.out.cell (World.block_lt_of_cell? w _ hw130_1)).trans hw130_1), ((HB.out.cell (World.block_lt_of_cell? w _ hw130_2)).trans hw130_2), ((HB.out.cell (World.block_lt_of_cell? w _ hw130_3)).trans hw130_3), ((HB.out.cell (World.block_lt_of_cell? w _ hw130_4)).trans hw130_4)⟩ (fun hHeld => ?_)
                          clear hK K
                          refine norm_ (a' := ?_) ?_ ?_
                          rotate_left
                          ·show Act.put _ (some 16) _ = _
                           simp only [Act.put, List.setIfInBounds_toArray, List.set_cons_zero, List.set_cons_succ, i64_w, i32_w]
                           rfl
                          exact norm_ (by simp only [putAll, Act.put, List.setIfInBounds_toArray, List.set_cons_zero, List.set_cons_succ]) (hCont (gb137) _ ⟨hHeld, (by (with_reducible repeat (first | apply Kd.S_alloc | apply Kd.S_drewN | apply Kd.S_drew)); exact HO_10.out), (by (with_reducible repeat (first | apply Kd.R_alloc | apply Kd.R_drewN | apply Kd.R_drew)); exact Kd.R_mono HO_9.out (fun _ hk => hk.2)), (bx_ BK117), (bx_ BK118), (bx_ BK137), GW137.out, GE137.out, NB117_137.out, NB137_117.out, NB118_137.out, NB137_118.out, (hx_ HB)⟩)
                         ·skip
                          refine box_step ?hg (N := 16) ?hd (cs := #[.int .u64 0, .int .u64 0, .int .u64 0, .int .u64 0, .bool false]) (t := 24) ?hr ?_; (case hd => rfl); (case hg => rfl); (case hr => first | (go_simp; done) | (go_simp; rfl))
                          intro gb137 hg w107 hbox hb
                          have HS0_ := (hb.cell (World.block_lt_of_cell? _ _ (hHeld.1))).trans (hHeld.1)
                          have HS1_ := (hb.cell (World.block_lt_of_cell? _ _ (hHeld.2.1))).trans (hHeld.2.1)
                          have HS2_ := (hb.cell (World.block_lt_of_cell? _ _ (hHeld.2.2.1))).trans (hHeld.2.2.1)
                          have HS3_ := (hb.cell (World.block_lt_of_cell? _ _ (hHeld.2.2.2.1))).trans (hHeld.2.2.2.1)
                          have HS4_ := (hb.cell (World.block_lt_of_cell? _ _ (hHeld.2.2.2.2.1))).trans (hHeld.2.2.2.2.1)
                          have n0_ := am_ (Kd.R_below (Kd.R_elderB (rx_ HO_9) gb137 (Nat.le_of_eq hg.symm)) hb)
                          have n1_ := am_ (Kd.S_below (by (with_reducible repeat (first | apply Kd.S_alloc | apply Kd.S_drewN | apply Kd.S_drew)); exact HO_10.out) hb)
                          have n2_ := am_ (blk_below (g := gb117) (o := .cells #[.slice A0_0 l0_0.length c0_0, .slice A0_1 l0_1.length c0_1, .slice (some ad130) l0_2.length c0_2, .slice (some ad127) l0_3.length c0_3, .int .u64 a0_4] 38 (0, 0)) (bx_ BK117) hb)
                          have n3_ := am_ (blk_below (g := gb118) (o := .cells #[.slice A0_0 l0_0.length c0_0, .slice A0_1 l0_1.length c0_1] 35 (0, 0)) (bx_ BK118) hb)
                          have n4_ := am_ (below_step (hx_ HB) hb)
                          have n5_ := am_ (hbox)
                          have n6_ := am_ ((by rw [hg]; exact (below_size (hx_ HB)) : w.heap.size ≤ gb137))
                          have n7_ := am_ ((by rw [hg]; exact (below_size (hx_ HB)) : w.heap.size ≤ gb137))
                          have n8_ := am_ ((by rw [hg]; exact Nat.ne_of_lt (blk_lt (g := gb117) (o := .cells #[.slice A0_0 l0_0.length c0_0, .slice A0_1 l0_1.length c0_1, .slice (some ad130) l0_2.length c0_2, .slice (some ad127) l0_3.length c0_3, .int .u64 a0_4] 38 (0, 0)) (bx_ BK117)) : gb117 ≠ gb137))
                          have n9_ := am_ ((by rw [hg]; exact Nat.ne_of_gt (blk_lt (g := gb117) (o := .cells #[.slice A0_0 l0_0.length c0_0, .slice A0_1 l0_1.length c0_1, .slice (some ad130) l0_2.length c0_2, .slice (some ad127) l0_3.length c0_3, .int .u64 a0_4] 38 (0, 0)) (bx_ BK117)) : gb137 ≠ gb117))
                          have n10_ := am_ ((by rw [hg]; exact Nat.ne_of_lt (blk_lt (g := gb118) (o := .cells #[.slice A0_0 l0_0.length c0_0, .slice A0_1 l0_1.length c0_1] 35 (0, 0)) (bx_ BK118)) : gb118 ≠ gb137))
                          have n11_ := am_ ((by rw [hg]; exact Nat.ne_of_gt (blk_lt (g := gb118) (o := .cells #[.slice A0_0 l0_0.length c0_0, .slice A0_1 l0_1.length c0_1] 35 (0, 0)) (bx_ BK118)) : gb137 ≠ gb118))
                          clear HO_9
                          clear HO_10
                          clear BK117
                          clear BK118
                          clear HB
                          have HO_9 := n0_
                          have HO_10 := n1_
                          have BK117 := n2_
                          have BK118 := n3_
                          have HB := n4_
                          have BK137 := n5_
                          have GW137 := n6_
                          have GE137 := n7_
                          have NB117_137 := n8_
                          have NB137_117 := n9_
                          have NB118_137 := n10_
                          have NB137_118 := n11_
                          clear n0_ n1_ n2_ n3_ n4_ n5_ n6_ n7_ n8_ n9_ n10_ n11_
                          clear hb hbox hg
                          refine hK.out _ _ ⟨HS0_, HS1_, HS2_, HS3_, HS4_, ((HB.out.cell (World.block_lt_of_cell? w _ hw130_0)).trans hw130_0), ((HB.out.cell (World.block_lt_of_cell? w _ hw130_1)).trans hw130_1), ((HB.out.cell (World.block_lt_of_cell? w _ hw130_2)).trans hw130_2), ((HB.out.cell (World.block_lt_of_cell? w _ hw130_3)).trans hw130_3), ((HB.out.cell (World.block_lt_of_cell? w _ hw130_4)).trans hw130_4)⟩ (fun hHeld => ?_)
                          clear hK K
                          refine norm_ (a' := ?_) ?_ ?_
                          rotate_left
                          ·show Act.put _ (some 16) _ = _
                           simp only [Act.put, List.setIfInBounds_toArray, List.set_cons_zero, List.set_cons_succ, i64_w, i32_w]
                           rfl
                          refine one_ (i := 8) (N := some 97) bN15_ rfl rfl (one_of HT_.out (by kernel_rfl)) (by decide) (fun K hK => ?_)
                          refine goes_ Try.func9 (by kernel_rfl) rfl #[.agg #[.int .u64 ((rd_T24 x9_3 (ji35)).f0), .int .u64 ((rd_T24 x9_3 (ji35)).f1), .int .u64 ((rd_T24 x9_3 (ji35)).f2), .int .u64 ((rd_T24 x9_3 (ji35)).f3), .bool ((rd_T24 x9_3 (ji35)).f4)], .agg #[.int .u64 ((rd_T26 l0_2 (ji38)).f0), .int .u64 ((rd_T26 l0_2 (ji38)).f1), .int .u64 ((rd_T26 l0_2 (ji38)).f2), .int .u64 ((rd_T26 l0_2 (ji38)).f3), .bool ((rd_T26 l0_2 (ji38)).f4)]] (by rfl) rfl rfl (by (try simp only [List.map_toArray, List.map_cons, List.map_nil]); first | done | (simp only [hji35, hji38]; rfl) | rfl | (simp only [List.length_drop, List.length_take]; rfl)) ?_
                          with_reducible refine (ballot_Answer.calls ((rd_T24 x9_3 (ji35)).f0) ((rd_T24 x9_3 (ji35)).f1) ((rd_T24 x9_3 (ji35)).f2) ((rd_T24 x9_3 (ji35)).f3) ((rd_T24 x9_3 (ji35)).f4) ((rd_T26 l0_2 (ji38)).f0) ((rd_T26 l0_2 (ji38)).f1) ((rd_T26 l0_2 (ji38)).f2) ((rd_T26 l0_2 (ji38)).f3) ((rd_T26 l0_2 (ji38)).f4) t131 t132 t133 t134 t135 t136 _ A41.out).mono ?_
                          rintro e w108 ⟨rfl, hb⟩
                          have HS0_ := (hb.cell (World.block_lt_of_cell? _ _ (hHeld.1))).trans (hHeld.1)
                          have HS1_ := (hb.cell (World.block_lt_of_cell? _ _ (hHeld.2.1))).trans (hHeld.2.1)
                          have HS2_ := (hb.cell (World.block_lt_of_cell? _ _ (hHeld.2.2.1))).trans (hHeld.2.2.1)
                          have HS3_ := (hb.cell (World.block_lt_of_cell? _ _ (hHeld.2.2.2.1))).trans (hHeld.2.2.2.1)
                          have HS4_ := (hb.cell (World.block_lt_of_cell? _ _ (hHeld.2.2.2.2.1))).trans (hHeld.2.2.2.2.1)
                          refine ⟨_, rfl, ?_⟩
                          have n0_ := am_ (Kd.R_below (rx_ HO_9) hb)
                          have n1_ := am_ (Kd.S_below (by (with_reducible repeat (first | apply Kd.S_alloc | apply Kd.S_drewN | apply Kd.S_drew)); exact HO_10.out) hb)
                          have n2_ := am_ (blk_below (g := gb117) (o := .cells #[.slice A0_0 l0_0.length c0_0, .slice A0_1 l0_1.length c0_1, .slice (some ad130) l0_2.length c0_2, .slice (some ad127) l0_3.length c0_3, .int .u64 a0_4] 38 (0, 0)) (bx_ BK117) hb)
                          have n3_ := am_ (blk_below (g := gb118) (o := .cells #[.slice A0_0 l0_0.length c0_0, .slice A0_1 l0_1.length c0_1] 35 (0, 0)) (bx_ BK118) hb)
                          have n4_ := am_ (blk_below (g := gb137) (o := .cells #[.int .u64 0, .int .u64 0, .int .u64 0, .int .u64 0, .bool false] 24 (0, 0)) (bx_ BK137) hb)
                          have n5_ := am_ (below_step (hx_ HB) hb)
                          clear HO_9
                          clear HO_10
                          clear BK117
                          clear BK118
                          clear BK137
                          clear HB
                          have HO_9 := n0_
                          have HO_10 := n1_
                          have BK117 := n2_
                          have BK118 := n3_
                          have BK137 := n4_
                          have HB := n5_
                          clear n0_ n1_ n2_ n3_ n4_ n5_
                          (try clear hb)
                          (try clear hb2)
                          (try clear hk)
                          (try clear hi)
                          refine hK.out _ _ ⟨HS0_, HS1_, HS2_, HS3_, HS4_, ((HB.out.cell (World.block_lt_of_cell? w _ hw130_0)).trans hw130_0), ((HB.out.cell (World.block_lt_of_cell? w _ hw130_1)).trans hw130_1), ((HB.out.cell (World.block_lt_of_cell? w _ hw130_2)).trans hw130_2), ((HB.out.cell (World.block_lt_of_cell? w _ hw130_3)).trans hw130_3), ((HB.out.cell (World.block_lt_of_cell? w _ hw130_4)).trans hw130_4)⟩ (fun hHeld => ?_)
                          clear hK K
                          refine norm_ (a' := ?_) ?_ ?_
                          rotate_left
                          ·show Act.put _ (some 97) _ = _
                           simp only [Act.put, List.setIfInBounds_toArray, List.set_cons_zero, List.set_cons_succ, i64_w, i32_w]
                           rfl
                          refine pure_ (i := 9) (N := some 88) (v := ?_) (a' := ?_) bN16_ rfl rfl (any_of HT_.out (by kernel_rfl)) (fun _ _ _ h => h) (Or.inl ⟨by rfl, ?_⟩) ?_ ?_; rotate_left; (intro w'; go_simp; with_reducible rfl); rotate_left; (simp only [Act.put, List.setIfInBounds_toArray, List.set_cons_zero, List.set_cons_succ, i64_w, i32_w]; rfl)
                          refine pure_ (i := 10) (N := some 98) (v := ?_) (a' := ?_) bN17_ rfl rfl (any_of HT_.out (by kernel_rfl)) (fun _ _ _ h => h) (Or.inl ⟨by rfl, ?_⟩) ?_ ?_; rotate_left; (intro w'; go_simp; with_reducible rfl); rotate_left; (simp only [Act.put, List.setIfInBounds_toArray, List.set_cons_zero, List.set_cons_succ, i64_w, i32_w]; rfl)
                          refine pure_ (i := 11) (N := some 99) (v := ?_) (a' := ?_) bN9_ rfl rfl (any_of HT_.out (by kernel_rfl)) (fun _ _ _ h => h) (Or.inl ⟨by rfl, ?_⟩) ?_ ?_; rotate_left; (intro w'; go_simp; with_reducible rfl); rotate_left; (simp only [Act.put, List.setIfInBounds_toArray, List.set_cons_zero, List.set_cons_succ, i64_w, i32_w]; rfl)
                          exact norm_ (by simp only [putAll, Act.put, List.setIfInBounds_toArray, List.set_cons_zero, List.set_cons_succ]) (hCont (gb137) _ ⟨hHeld, (by (with_reducible repeat (first | apply Kd.S_alloc | apply Kd.S_drewN | apply Kd.S_drew)); exact HO_10.out), (by (with_reducible repeat (first | apply Kd.R_alloc | apply Kd.R_drewN | apply Kd.R_drew)); exact Kd.R_mono HO_9.out (fun _ hk => hk.2)), (bx_ BK117), (bx_ BK118), (bx_ BK137), GW137.out, GE137.out, NB117_137.out, NB137_117.out, NB118_137.out, NB137_118.out, (hx_ HB)⟩)
                        rintro gb137 w109 ⟨hS_, h0_, h1_, h2_, h3_, h4_, h5_, h6_, h7_, h8_, h9_, h10_, h11_⟩
                        have n0_ : Aside0 (Kd.S (Kd.slice 22 (Kd.int .u64)) 33 w109 w.heap.size (fun _ => True) u10 x10_3) := ⟨h0_⟩
                        have n1_ : Aside0 (Kd.R k24 24 w109 w.heap.size (fun k_ => k_ ≠ gb137) (.slice (some ad129) x9_3.length co32) x9_3) := ⟨h1_⟩
                        have n2_ : Aside0 (w109.heap[gb117]? = some (.cells #[.slice A0_0 l0_0.length c0_0, .slice A0_1 l0_1.length c0_1, .slice (some ad130) l0_2.length c0_2, .slice (some ad127) l0_3.length c0_3, .int .u64 a0_4] 38 (0, 0))) := ⟨h2_⟩
                        have n3_ : Aside0 (w109.heap[gb118]? = some (.cells #[.slice A0_0 l0_0.length c0_0, .slice A0_1 l0_1.length c0_1] 35 (0, 0))) := ⟨h3_⟩
                        have n4_ : Aside0 (w109.heap[gb137]? = some (.cells #[.int .u64 0, .int .u64 0, .int .u64 0, .int .u64 0, .bool false] 24 (0, 0))) := ⟨h4_⟩
                        have n5_ : Aside0 (w.heap.size ≤ gb137) := ⟨h5_⟩
                        have n6_ : Aside0 (w.heap.size ≤ gb137) := ⟨h6_⟩
                        have n7_ : Aside0 (gb117 ≠ gb137) := ⟨h7_⟩
                        have n8_ : Aside0 (gb137 ≠ gb117) := ⟨h8_⟩
                        have n9_ : Aside0 (gb118 ≠ gb137) := ⟨h9_⟩
                        have n10_ : Aside0 (gb137 ≠ gb118) := ⟨h10_⟩
                        have n11_ : Aside0 (Below w.heap.size w w109) := ⟨h11_⟩
                        clear HO_9
                        clear HO_10
                        clear BK117
                        clear BK118
                        clear HB
                        clear h0_ h1_ h2_ h3_ h4_ h5_ h6_ h7_ h8_ h9_ h10_ h11_
                        have HO_10 := n0_
                        have HO_9 := n1_
                        have BK117 := n2_
                        have BK118 := n3_
                        have BK137 := n4_
                        have GW137 := n5_
                        have GE137 := n6_
                        have NB117_137 := n7_
                        have NB137_117 := n8_
                        have NB118_137 := n9_
                        have NB137_118 := n10_
                        have HB := n11_
                        clear n0_ n1_ n2_ n3_ n4_ n5_ n6_ n7_ n8_ n9_ n10_ n11_
                        have hHeld : w109.cell? (ad129.add (((ji35)).toNat * 5)) = some (.int .u64 ((rd_T24 x9_3 (ji35)).f0)) ∧ w109.cell? ⟨(ad129.add (((ji35)).toNat * 5)).block, (ad129.add (((ji35)).toNat * 5)).off + 1, none⟩ = some (.int .u64 ((rd_T24 x9_3 (ji35)).f1)) ∧ w109.cell? ⟨(ad129.add (((ji35)).toNat * 5)).block, (ad129.add (((ji35)).toNat * 5)).off + 2, none⟩ = some (.int .u64 ((rd_T24 x9_3 (ji35)).f2)) ∧ w109.cell? ⟨(ad129.add (((ji35)).toNat * 5)).block, (ad129.add (((ji35)).toNat * 5)).off + 3, none⟩ = some (.int .u64 ((rd_T24 x9_3 (ji35)).f3)) ∧ w109.cell? ⟨(ad129.add (((ji35)).toNat * 5)).block, (ad129.add (((ji35)).toNat * 5)).off + 4, none⟩ = some (.bool ((rd_T24 x9_3 (ji35)).f4)) ∧ w109.cell? (ad130.add (((ji38)).toNat * 5)) = some (.int .u64 ((rd_T26 l0_2 (ji38)).f0)) ∧ w109.cell? ⟨(ad130.add (((ji38)).toNat * 5)).block, (ad130.add (((ji38)).toNat * 5)).off + 1, none⟩ = some (.int .u64 ((rd_T26 l0_2 (ji38)).f1)) ∧ w109.cell? ⟨(ad130.add (((ji38)).toNat * 5)).block, (ad130.add (((ji38)).toNat * 5)).off + 2, none⟩ = some (.int .u64 ((rd_T26 l0_2 (ji38)).f2)) ∧ w109.cell? ⟨(ad130.add (((ji38)).toNat * 5)).block, (ad130.add (((ji38)).toNat * 5)).off + 3, none⟩ = some (.int .u64 ((rd_T26 l0_2 (ji38)).f3)) ∧ w109.cell? ⟨(ad130.add (((ji38)).toNat * 5)).block, (ad130.add (((ji38)).toNat * 5)).off + 4, none⟩ = some (.bool ((rd_T26 l0_2 (ji38)).f4)) := hS_
                        refine norm_ (a' := ?_) ?_ ?_; rotate_left; (simp only [putAll, Act.put, List.setIfInBounds_toArray, List.set_cons_zero, List.set_cons_succ]; rfl)
                        refine one_ (i := 13) (N := none) bN18_ rfl rfl (one_of HT_.out (by kernel_rfl)) (by decide) (fun K hK => ?_)
                        have hs110 : w109.cell? ⟨gb137, 0, none⟩ = some (.int .u64 0) := (blk_cell BK137.out 0).trans rfl
                        have hfs110 := blk_frozen BK137.out 0
                        have hns110_0 := NB117_137.out
                        have hns110_1 := NB118_137.out
                        have hms110_0 := NB137_117.out
                        have hms110_1 := NB137_118.out
                        have hs111 : w109.cell? ⟨gb137, 1, none⟩ = some (.int .u64 0) := (blk_cell BK137.out 1).trans rfl
                        have hfs111 := blk_frozen BK137.out 1
                        have hns111_0 := NB117_137.out
                        have hns111_1 := NB118_137.out
                        have hms111_0 := NB137_117.out
                        have hms111_1 := NB137_118.out
                        have hs112 : w109.cell? ⟨gb137, 2, none⟩ = some (.int .u64 0) := (blk_cell BK137.out 2).trans rfl
                        have hfs112 := blk_frozen BK137.out 2
                        have hns112_0 := NB117_137.out
                        have hns112_1 := NB118_137.out
                        have hms112_0 := NB137_117.out
                        have hms112_1 := NB137_118.out
                        have hs113 : w109.cell? ⟨gb137, 3, none⟩ = some (.int .u64 0) := (blk_cell BK137.out 3).trans rfl
                        have hfs113 := blk_frozen BK137.out 3
                        have hns113_0 := NB117_137.out
                        have hns113_1 := NB118_137.out
                        have hms113_0 := NB137_117.out
                        have hms113_1 := NB137_118.out
                        have hs114 : w109.cell? ⟨gb137, 4, none⟩ = some (.bool false) := (blk_cell BK137.out 4).trans rfl
                        have hfs114 := blk_frozen BK137.out 4
                        have hns114_0 := NB117_137.out
                        have hns114_1 := NB118_137.out
                        have hms114_0 := NB137_117.out
                        have hms114_1 := NB137_118.out
                        refine skip_ (w1 := ?_) (by rfl) rfl ?_ ?_
                        rotate_left
                        ·go_simp
                         rfl
                        refine hK.out _ _ ⟨((cell_far (p := ⟨gb137, _, none⟩) (by first | exact Kd.own_blk (Kd.R_away HO_9.out (fun _ hk => hk)) | (rw [add_block]; exact Kd.own_blk (Kd.R_away HO_9.out (fun _ hk => hk))) | (show (Addr.add _ _).block ≠ _; rw [add_block]; exact Kd.own_blk (Kd.R_away HO_9.out (fun _ hk => hk))) | (dsimp only; exact Kd.own_blk (Kd.R_away HO_9.out (fun _ hk => hk)))) _).trans (((cell_far (p := ⟨gb137, _, none⟩) (by first | exact Kd.own_blk (Kd.R_away HO_9.out (fun _ hk => hk)) | (rw [add_block]; exact Kd.own_blk (Kd.R_away HO_9.out (fun _ hk => hk))) | (show (Addr.add _ _).block ≠ _; rw [add_block]; exact Kd.own_blk (Kd.R_away HO_9.out (fun _ hk => hk))) | (dsimp only; exact Kd.own_blk (Kd.R_away HO_9.out (fun _ hk => hk)))) _).trans (((cell_far (p := ⟨gb137, _, none⟩) (by first | exact Kd.own_blk (Kd.R_away HO_9.out (fun _ hk => hk)) | (rw [add_block]; exact Kd.own_blk (Kd.R_away HO_9.out (fun _ hk => hk))) | (show (Addr.add _ _).block ≠ _; rw [add_block]; exact Kd.own_blk (Kd.R_away HO_9.out (fun _ hk => hk))) | (dsimp only; exact Kd.own_blk (Kd.R_away HO_9.out (fun _ hk => hk)))) _).trans (((cell_far (p := ⟨gb137, _, none⟩) (by first | exact Kd.own_blk (Kd.R_away HO_9.out (fun _ hk => hk)) | (rw [add_block]; exact Kd.own_blk (Kd.R_away HO_9.out (fun _ hk => hk))) | (show (Addr.add _ _).block ≠ _; rw [add_block]; exact Kd.own_blk (Kd.R_away HO_9.out (fun _ hk => hk))) | (dsimp only; exact Kd.own_blk (Kd.R_away HO_9.out (fun _ hk => hk)))) _).trans (((cell_far (p := ⟨gb137, _, none⟩) (by first | exact Kd.own_blk (Kd.R_away HO_9.out (fun _ hk => hk)) | (rw [add_block]; exact Kd.own_blk (Kd.R_away HO_9.out (fun _ hk => hk))) | (show (Addr.add _ _).block ≠ _; rw [add_block]; exact Kd.own_blk (Kd.R_away HO_9.out (fun _ hk => hk))) | (dsimp only; exact Kd.own_blk (Kd.R_away HO_9.out (fun _ hk => hk)))) _).trans (hHeld.1)))))))))), ((cell_far (p := ⟨gb137, _, none⟩) (by first | exact Kd.own_blk (Kd.R_away HO_9.out (fun _ hk => hk)) | (rw [add_block]; exact Kd.own_blk (Kd.R_away HO_9.out (fun _ hk => hk))) | (show (Addr.add _ _).block ≠ _; rw [add_block]; exact Kd.own_blk (Kd.R_away HO_9.out (fun _ hk => hk))) | (dsimp only; exact Kd.own_blk (Kd.R_away HO_9.out (fun _ hk => hk)))) _).trans (((cell_far (p := ⟨gb137, _, none⟩) (by first | exact Kd.own_blk (Kd.R_away HO_9.out (fun _ hk => hk)) | (rw [add_block]; exact Kd.own_blk (Kd.R_away HO_9.out (fun _ hk => hk))) | (show (Addr.add _ _).block ≠ _; rw [add_block]; exact Kd.own_blk (Kd.R_away HO_9.out (fun _ hk => hk))) | (dsimp only; exact Kd.own_blk (Kd.R_away HO_9.out (fun _ hk => hk)))) _).trans (((cell_far (p := ⟨gb137, _, none⟩) (by first | exact Kd.own_blk (Kd.R_away HO_9.out (fun _ hk => hk)) | (rw [add_block]; exact Kd.own_blk (Kd.R_away HO_9.out (fun _ hk => hk))) | (show (Addr.add _ _).block ≠ _; rw [add_block]; exact Kd.own_blk (Kd.R_away HO_9.out (fun _ hk => hk))) | (dsimp only; exact Kd.own_blk (Kd.R_away HO_9.out (fun _ hk => hk)))) _).trans (((cell_far (p := ⟨gb137, _, none⟩) (by first | exact Kd.own_blk (Kd.R_away HO_9.out (fun _ hk => hk)) | (rw [add_block]; exact Kd.own_blk (Kd.R_away HO_9.out (fun _ hk => hk))) | (show (Addr.add _ _).block ≠ _; rw [add_block]; exact Kd.own_blk (Kd.R_away HO_9.out (fun _ hk => hk))) | (dsimp only; exact Kd.own_blk (Kd.R_away HO_9.out (fun _ hk => hk)))) _).trans (((cell_far (p := ⟨gb137, _, none⟩) (by first | exact Kd.own_blk (Kd.R_away HO_9.out (fun _ hk => hk)) | (rw [add_block]; exact Kd.own_blk (Kd.R_away HO_9.out (fun _ hk => hk))) | (show (Addr.add _ _).block ≠ _; rw [add_block]; exact Kd.own_blk (Kd.R_away HO_9.out (fun _ hk => hk))) | (dsimp only; exact Kd.own_blk (Kd.R_away HO_9.out (fun _ hk => hk)))) _).trans (hHeld.2.1)))))))))), ((cell_far (p := ⟨gb137, _, none⟩) (by first | exact Kd.own_blk (Kd.R_away HO_9.out (fun _ hk => hk)) | (rw [add_block]; exact Kd.own_blk (Kd.R_away HO_9.out (fun _ hk => hk))) | (show (Addr.add _ _).block ≠ _; rw [add_block]; exact Kd.own_blk (Kd.R_away HO_9.out (fun _ hk => hk))) | (dsimp only; exact Kd.own_blk (Kd.R_away HO_9.out (fun _ hk => hk)))) _).trans (((cell_far (p := ⟨gb137, _, none⟩) (by first | exact Kd.own_blk (Kd.R_away HO_9.out (fun _ hk => hk)) | (rw [add_block]; exact Kd.own_blk (Kd.R_away HO_9.out (fun _ hk => hk))) | (show (Addr.add _ _).block ≠ _; rw [add_block]; exact Kd.own_blk (Kd.R_away HO_9.out (fun _ hk => hk))) | (dsimp only; exact Kd.own_blk (Kd.R_away HO_9.out (fun _ hk => hk)))) _).trans (((cell_far (p := ⟨gb137, _, none⟩) (by first | exact Kd.own_blk (Kd.R_away HO_9.out (fun _ hk => hk)) | (rw [add_block]; exact Kd.own_blk (Kd.R_away HO_9.out (fun _ hk => hk))) | (show (Addr.add _ _).block ≠ _; rw [add_block]; exact Kd.own_blk (Kd.R_away HO_9.out (fun _ hk => hk))) | (dsimp only; exact Kd.own_blk (Kd.R_away HO_9.out (fun _ hk => hk)))) _).trans (((cell_far (p := ⟨gb137, _, none⟩) (by first | exact Kd.own_blk (Kd.R_away HO_9.out (fun _ hk => hk)) | (rw [add_block]; exact Kd.own_blk (Kd.R_away HO_9.out (fun _ hk => hk))) | (show (Addr.add _ _).block ≠ _; rw [add_block]; exact Kd.own_blk (Kd.R_away HO_9.out (fun _ hk => hk))) | (dsimp only; exact Kd.own_blk (Kd.R_away HO_9.out (fun _ hk => hk)))) _).trans (((cell_far (p := ⟨gb137, _, none⟩) (by first | exact Kd.own_blk (Kd.R_away HO_9.out (fun _ hk => hk)) | (rw [add_block]; exact Kd.own_blk (Kd.R_away HO_9.out (fun _ hk => hk))) | (show (Addr.add _ _).block ≠ _; rw [add_block]; exact Kd.own_blk (Kd.R_away HO_9.out (fun _ hk => hk))) | (dsimp only; exact Kd.own_blk (Kd.R_away HO_9.out (fun _ hk => hk)))) _).trans (hHeld.2.2.1)))))))))), ((cell_far (p := ⟨gb137, _, none⟩) (by first | exact Kd.own_blk (Kd.R_away HO_9.out (fun _ hk => hk)) | (rw [add_block]; exact Kd.own_blk (Kd.R_away HO_9.out (fun _ hk => hk))) | (show (Addr.add _ _).block ≠ _; rw [add_block]; exact Kd.own_blk (Kd.R_away HO_9.out (fun _ hk => hk))) | (dsimp only; exact Kd.own_blk (Kd.R_away HO_9.out (fun _ hk => hk)))) _).trans (((cell_far (p := ⟨gb137, _, none⟩) (by first | exact Kd.own_blk (Kd.R_away HO_9.out (fun _ hk => hk)) | (rw [add_block]; exact Kd.own_blk (Kd.R_away HO_9.out (fun _ hk => hk))) | (show (Addr.add _ _).block ≠ _; rw [add_block]; exact Kd.own_blk (Kd.R_away HO_9.out (fun _ hk => hk))) | (dsimp only; exact Kd.own_blk (Kd.R_away HO_9.out (fun _ hk => hk)))) _).trans (((cell_far (p := ⟨gb137, _, none⟩) (by first | exact Kd.own_blk (Kd.R_away HO_9.out (fun _ hk => hk)) | (rw [add_block]; exact Kd.own_blk (Kd.R_away HO_9.out (fun _ hk => hk))) | (show (Addr.add _ _).block ≠ _; rw [add_block]; exact Kd.own_blk (Kd.R_away HO_9.out (fun _ hk => hk))) | (dsimp only; exact Kd.own_blk (Kd.R_away HO_9.out (fun _ hk => hk)))) _).trans (((cell_far (p := ⟨gb137, _, none⟩) (by first | exact Kd.own_blk (Kd.R_away HO_9.out (fun _ hk => hk)) | (rw [add_block]; exact Kd.own_blk (Kd.R_away HO_9.out (fun _ hk => hk))) | (show (Addr.add _ _).block ≠ _; rw [add_block]; exact Kd.own_blk (Kd.R_away HO_9.out (fun _ hk => hk))) | (dsimp only; exact Kd.own_blk (Kd.R_away HO_9.out (fun _ hk => hk)))) _).trans (((cell_far (p := ⟨gb137, _, none⟩) (by first | exact Kd.own_blk (Kd.R_away HO_9.out (fun _ hk => hk)) | (rw [add_block]; exact Kd.own_blk (Kd.R_away HO_9.out (fun _ hk => hk))) | (show (Addr.add _ _).block ≠ _; rw [add_block]; exact Kd.own_blk (Kd.R_away HO_9.out (fun _ hk => hk))) | (dsimp only; exact Kd.own_blk (Kd.R_away HO_9.out (fun _ hk => hk)))) _).trans (hHeld.2.2.2.1)))))))))), ((cell_far (p := ⟨gb137, _, none⟩) (by first | exact Kd.own_blk (Kd.R_away HO_9.out (fun _ hk => hk)) | (rw [add_block]; exact Kd.own_blk (Kd.R_away HO_9.out (fun _ hk => hk))) | (show (Addr.add _ _).block ≠ _; rw [add_block]; exact Kd.own_blk (Kd.R_away HO_9.out (fun _ hk => hk))) | (dsimp only; exact Kd.own_blk (Kd.R_away HO_9.out (fun _ hk => hk)))) _).trans (((cell_far (p := ⟨gb137, _, none⟩) (by first | exact Kd.own_blk (Kd.R_away HO_9.out (fun _ hk => hk)) | (rw [add_block]; exact Kd.own_blk (Kd.R_away HO_9.out (fun _ hk => hk))) | (show (Addr.add _ _).block ≠ _; rw [add_block]; exact Kd.own_blk (Kd.R_away HO_9.out (fun _ hk => hk))) | (dsimp only; exact Kd.own_blk (Kd.R_away HO_9.out (fun _ hk => hk)))) _).trans (((cell_far (p := ⟨gb137, _, none⟩) (by first | exact Kd.own_blk (Kd.R_away HO_9.out (fun _ hk => hk)) | (rw [add_block]; exact Kd.own_blk (Kd.R_away HO_9.out (fun _ hk => hk))) | (show (Addr.add _ _).block ≠ _; rw [add_block]; exact Kd.own_blk (Kd.R_away HO_9.out (fun _ hk => hk))) | (dsimp only; exact Kd.own_blk (Kd.R_away HO_9.out (fun _ hk => hk)))) _).trans (((cell_far (p := ⟨gb137, _, none⟩) (by first | exact Kd.own_blk (Kd.R_away HO_9.out (fun _ hk => hk)) | (rw [add_block]; exact Kd.own_blk (Kd.R_away HO_9.out (fun _ hk => hk))) | (show (Addr.add _ _).block ≠ _; rw [add_block]; exact Kd.own_blk (Kd.R_away HO_9.out (fun _ hk => hk))) | (dsimp only; exact Kd.own_blk (Kd.R_away HO_9.out (fun _ hk => hk)))) _).trans (((cell_far (p := ⟨gb137, _, none⟩) (by first | exact Kd.own_blk (Kd.R_away HO_9.out (fun _ hk => hk)) | (rw [add_block]; exact Kd.own_blk (Kd.R_away HO_9.out (fun _ hk => hk))) | (show (Addr.add _ _).block ≠ _; rw [add_block]; exact Kd.own_blk (Kd.R_away HO_9.out (fun _ hk => hk))) | (dsimp only; exact Kd.own_blk (Kd.R_away HO_9.out (fun _ hk => hk)))) _).trans (hHeld.2.2.2.2.1)))))))))), ((cell_far (p := ⟨gb137, _, none⟩) (fz_ hw130_0 GW137) _).trans (((cell_far (p := ⟨gb137, _, none⟩) (fz_ hw130_0 GW137) _).trans (((cell_far (p := ⟨gb137, _, none⟩) (fz_ hw130_0 GW137) _).trans (((cell_far (p := ⟨gb137, _, none⟩) (fz_ hw130_0 GW137) _).trans (((cell_far (p := ⟨gb137, _, none⟩) (fz_ hw130_0 GW137) _).trans (hHeld.2.2.2.2.2.1)))))))))), ((cell_far (p := ⟨gb137, _, none⟩) (fz_ hw130_1 GW137) _).trans (((cell_far (p := ⟨gb137, _, none⟩) (fz_ hw130_1 GW137) _).trans (((cell_far (p := ⟨gb137, _, none⟩) (fz_ hw130_1 GW137) _).trans (((cell_far (p := ⟨gb137, _, none⟩) (fz_ hw130_1 GW137) _).trans (((cell_far (p := ⟨gb137, _, none⟩) (fz_ hw130_1 GW137) _).trans (hHeld.2.2.2.2.2.2.1)))))))))), ((cell_far (p := ⟨gb137, _, none⟩) (fz_ hw130_2 GW137) _).trans (((cell_far (p := ⟨gb137, _, none⟩) (fz_ hw130_2 GW137) _).trans (((cell_far (p := ⟨gb137, _, none⟩) (fz_ hw130_2 GW137) _).trans (((cell_far (p := ⟨gb137, _, none⟩) (fz_ hw130_2 GW137) _).trans (((cell_far (p := ⟨gb137, _, none⟩) (fz_ hw130_2 GW137) _).trans (hHeld.2.2.2.2.2.2.2.1)))))))))), ((cell_far (p := ⟨gb137, _, none⟩) (fz_ hw130_3 GW137) _).trans (((cell_far (p := ⟨gb137, _, none⟩) (fz_ hw130_3 GW137) _).trans (((cell_far (p := ⟨gb137, _, none⟩) (fz_ hw130_3 GW137) _).trans (((cell_far (p := ⟨gb137, _, none⟩) (fz_ hw130_3 GW137) _).trans (((cell_far (p := ⟨gb137, _, none⟩) (fz_ hw130_3 GW137) _).trans (hHeld.2.2.2.2.2.2.2.2.1)))))))))), ((cell_far (p := ⟨gb137, _, none⟩) (fz_ hw130_4 GW137) _).trans (((cell_far (p := ⟨gb137, _, none⟩) (fz_ hw130_4 GW137) _).trans (((cell_far (p := ⟨gb137, _, none⟩) (fz_ hw130_4 GW137) _).trans (((cell_far (p := ⟨gb137, _, none⟩) (fz_ hw130_4 GW137) _).trans (((cell_far (p := ⟨gb137, _, none⟩) (fz_ hw130_4 GW137) _).trans (hHeld.2.2.2.2.2.2.2.2.2))))))))))⟩ (fun hHeld => ?_)
                        clear hK K
                        refine pure_ (i := 14) (N := some 17) (v := ?_) (a' := ?_) bN19_ rfl rfl (any_of HT_.out (by kernel_rfl)) (fun _ _ _ h => h) (Or.inl ⟨by rfl, ?_⟩) ?_ ?_; rotate_left; (intro w'; go_simp; with_reducible rfl); rotate_left; (simp only [Act.put, List.setIfInBounds_toArray, List.set_cons_zero, List.set_cons_succ, i64_w, i32_w]; rfl)
                        refine done_ (done_of HT_.out (by kernel_rfl)) ?_
                        have n0_ : Aside0 (Kd.R k24 24 (((((w109.setCell ⟨gb137, 0, none⟩ (.int .u64 t131)).setCell ⟨gb137, 1, none⟩ (.int .u64 t132)).setCell ⟨gb137, 2, none⟩ (.int .u64 t133)).setCell ⟨gb137, 3, none⟩ (.int .u64 t134)).setCell ⟨gb137, 4, none⟩ (.bool t135)) w.heap.size (fun k_ => k_ ≠ gb137) (.slice (some ad129) x9_3.length co32) x9_3) := ⟨by (with_reducible repeat (first | apply Kd.R_alloc | apply Kd.R_drewN | apply Kd.R_drew)); exact Kd.R_mono (Kd.R_far (p := ⟨gb137, 4, none⟩) (Kd.R_far (p := ⟨gb137, 3, none⟩) (Kd.R_far (p := ⟨gb137, 2, none⟩) (Kd.R_far (p := ⟨gb137, 1, none⟩) (Kd.R_far (p := ⟨gb137, 0, none⟩) (Kd.R_mono HO_9.out (fun k_ hk => (⟨hk, hk⟩ : _ ∧ k_ ≠ gb137))) (fun _ hk => hk.2) (.int .u64 t131)) (fun _ hk => hk.2) (.int .u64 t132)) (fun _ hk => hk.2) (.int .u64 t133)) (fun _ hk => hk.2) (.int .u64 t134)) (fun _ hk => hk.2) (.bool t135)) (fun _ hk => hk.1)⟩
                        have n1_ : Aside0 (Kd.S (Kd.slice 22 (Kd.int .u64)) 33 (((((w109.setCell ⟨gb137, 0, none⟩ (.int .u64 t131)).setCell ⟨gb137, 1, none⟩ (.int .u64 t132)).setCell ⟨gb137, 2, none⟩ (.int .u64 t133)).setCell ⟨gb137, 3, none⟩ (.int .u64 t134)).setCell ⟨gb137, 4, none⟩ (.bool t135)) w.heap.size (fun _ => True) u10 x10_3) := ⟨by (with_reducible repeat (first | apply Kd.S_alloc | apply Kd.S_drewN | apply Kd.S_drew)); exact Kd.S_mono (Kd.S_far (p := ⟨gb137, 4, none⟩) (Kd.S_far (p := ⟨gb137, 3, none⟩) (Kd.S_far (p := ⟨gb137, 2, none⟩) (Kd.S_far (p := ⟨gb137, 1, none⟩) (Kd.S_far (p := ⟨gb137, 0, none⟩) (Kd.S_types HO_10.out BK137.out (by decide)) (fun _ hk => hk.2) (.int .u64 t131)) (fun _ hk => hk.2) (.int .u64 t132)) (fun _ hk => hk.2) (.int .u64 t133)) (fun _ hk => hk.2) (.int .u64 t134)) (fun _ hk => hk.2) (.bool t135)) (fun _ hk => trivial)⟩
                        have n2_ : Aside0 ((((((w109.setCell ⟨gb137, 0, none⟩ (.int .u64 t131)).setCell ⟨gb137, 1, none⟩ (.int .u64 t132)).setCell ⟨gb137, 2, none⟩ (.int .u64 t133)).setCell ⟨gb137, 3, none⟩ (.int .u64 t134)).setCell ⟨gb137, 4, none⟩ (.bool t135)).heap[gb117]? = some (.cells #[.slice A0_0 l0_0.length c0_0, .slice A0_1 l0_1.length c0_1, .slice (some ad130) l0_2.length c0_2, .slice (some ad127) l0_3.length c0_3, .int .u64 a0_4] 38 (0, 0))) := ⟨by (with_reducible repeat (first | refine blk_drewN ?_ _ | refine blk_drew ?_ | refine blk_alloc ?_ _)); refine blk_far ?_ NB117_137.out _; (with_reducible repeat (first | refine blk_drewN ?_ _ | refine blk_drew ?_ | refine blk_alloc ?_ _)); refine blk_far ?_ NB117_137.out _; (with_reducible repeat (first | refine blk_drewN ?_ _ | refine blk_drew ?_ | refine blk_alloc ?_ _)); refine blk_far ?_ NB117_137.out _; (with_reducible repeat (first | refine blk_drewN ?_ _ | refine blk_drew ?_ | refine blk_alloc ?_ _)); refine blk_far ?_ NB117_137.out _; (with_reducible repeat (first | refine blk_drewN ?_ _ | refine blk_drew ?_ | refine blk_alloc ?_ _)); refine blk_far ?_ NB117_137.out _; (with_reducible repeat (first | refine blk_drewN ?_ _ | refine blk_drew ?_ | refine blk_alloc ?_ _)); exact BK117.out⟩
                        have n3_ : Aside0 ((((((w109.setCell ⟨gb137, 0, none⟩ (.int .u64 t131)).setCell ⟨gb137, 1, none⟩ (.int .u64 t132)).setCell ⟨gb137, 2, none⟩ (.int .u64 t133)).setCell ⟨gb137, 3, none⟩ (.int .u64 t134)).setCell ⟨gb137, 4, none⟩ (.bool t135)).heap[gb118]? = some (.cells #[.slice A0_0 l0_0.length c0_0, .slice A0_1 l0_1.length c0_1] 35 (0, 0))) := ⟨by (with_reducible repeat (first | refine blk_drewN ?_ _ | refine blk_drew ?_ | refine blk_alloc ?_ _)); refine blk_far ?_ NB118_137.out _; (with_reducible repeat (first | refine blk_drewN ?_ _ | refine blk_drew ?_ | refine blk_alloc ?_ _)); refine blk_far ?_ NB118_137.out _; (with_reducible repeat (first | refine blk_drewN ?_ _ | refine blk_drew ?_ | refine blk_alloc ?_ _)); refine blk_far ?_ NB118_137.out _; (with_reducible repeat (first | refine blk_drewN ?_ _ | refine blk_drew ?_ | refine blk_alloc ?_ _)); refine blk_far ?_ NB118_137.out _; (with_reducible repeat (first | refine blk_drewN ?_ _ | refine blk_drew ?_ | refine blk_alloc ?_ _)); refine blk_far ?_ NB118_137.out _; (with_reducible repeat (first | refine blk_drewN ?_ _ | refine blk_drew ?_ | refine blk_alloc ?_ _)); exact BK118.out⟩
                        have n4_ : Aside0 ((((((w109.setCell ⟨gb137, 0, none⟩ (.int .u64 t131)).setCell ⟨gb137, 1, none⟩ (.int .u64 t132)).setCell ⟨gb137, 2, none⟩ (.int .u64 t133)).setCell ⟨gb137, 3, none⟩ (.int .u64 t134)).setCell ⟨gb137, 4, none⟩ (.bool t135)).heap[gb137]? = some (.cells #[.int .u64 t131, .int .u64 t132, .int .u64 t133, .int .u64 t134, .bool t135] 24 (0, 0))) := ⟨by (with_reducible repeat (first | refine blk_drewN ?_ _ | refine blk_drew ?_ | refine blk_alloc ?_ _)); refine blk_put (cs := #[.int .u64 t131, .int .u64 t132, .int .u64 t133, .int .u64 t134, .bool false]) ?_ 4 _ rfl; (with_reducible repeat (first | refine blk_drewN ?_ _ | refine blk_drew ?_ | refine blk_alloc ?_ _)); refine blk_put (cs := #[.int .u64 t131, .int .u64 t132, .int .u64 t133, .int .u64 0, .bool false]) ?_ 3 _ rfl; (with_reducible repeat (first | refine blk_drewN ?_ _ | refine blk_drew ?_ | refine blk_alloc ?_ _)); refine blk_put (cs := #[.int .u64 t131, .int .u64 t132, .int .u64 0, .int .u64 0, .bool false]) ?_ 2 _ rfl; (with_reducible repeat (first | refine blk_drewN ?_ _ | refine blk_drew ?_ | refine blk_alloc ?_ _)); refine blk_put (cs := #[.int .u64 t131, .int .u64 0, .int .u64 0, .int .u64 0, .bool false]) ?_ 1 _ rfl; (with_reducible repeat (first | refine blk_drewN ?_ _ | refine blk_drew ?_ | refine blk_alloc ?_ _)); refine blk_put (cs := #[.int .u64 0, .int .u64 0, .int .u64 0, .int .u64 0, .bool false]) ?_ 0 _ rfl; (with_reducible repeat (first | refine blk_drewN ?_ _ | refine blk_drew ?_ | refine blk_alloc ?_ _)); exact BK137.out⟩
                        have n5_ : Aside0 (Below w.heap.size w (((((w109.setCell ⟨gb137, 0, none⟩ (.int .u64 t131)).setCell ⟨gb137, 1, none⟩ (.int .u64 t132)).setCell ⟨gb137, 2, none⟩ (.int .u64 t133)).setCell ⟨gb137, 3, none⟩ (.int .u64 t134)).setCell ⟨gb137, 4, none⟩ (.bool t135))) := ⟨hx_ HB⟩
                        (try clear HO_9)
                        (try clear HO_10)
                        (try clear BK117)
                        (try clear BK118)
                        (try clear BK137)
                        (try clear HB)
                        generalize (((((w109.setCell ⟨gb137, 0, none⟩ (.int .u64 t131)).setCell ⟨gb137, 1, none⟩ (.int .u64 t132)).setCell ⟨gb137, 2, none⟩ (.int .u64 t133)).setCell ⟨gb137, 3, none⟩ (.int .u64 t134)).setCell ⟨gb137, 4, none⟩ (.bool t135)) = w115 at n0_ n1_ n2_ n3_ n4_ n5_ ⊢
                        have HO_9 := n0_
                        have HO_10 := n1_
                        have BK117 := n2_
                        have BK118 := n3_
                        have BK137 := n4_
                        have HB := n5_
                        clear n0_ n1_ n2_ n3_ n4_ n5_
                        have hnb116 := NB137_117.out
                        have hnc116 := NB117_137.out
                        have hnb117 := NB137_118.out
                        have hnc117 := NB118_137.out
                        have hcz118_0 : w115.cell? ⟨gb137, 0, none⟩ = some (.int .u64 t131) := (blk_cell BK137.out 0).trans rfl
                        have hcz118_1 : w115.cell? ⟨gb137, 1, none⟩ = some (.int .u64 t132) := (blk_cell BK137.out 1).trans rfl
                        have hcz118_2 : w115.cell? ⟨gb137, 2, none⟩ = some (.int .u64 t133) := (blk_cell BK137.out 2).trans rfl
                        have hcz118_3 : w115.cell? ⟨gb137, 3, none⟩ = some (.int .u64 t134) := (blk_cell BK137.out 3).trans rfl
                        have hcz118_4 : w115.cell? ⟨gb137, 4, none⟩ = some (.bool t135) := (blk_cell BK137.out 4).trans rfl
                        have hfz118_0 := blk_frozen BK137.out 0
                        have hfz118_1 := blk_frozen BK137.out 1
                        have hfz118_2 := blk_frozen BK137.out 2
                        have hfz118_3 := blk_frozen BK137.out 3
                        have hfz118_4 := blk_frozen BK137.out 4
                        have p42 : 0 ≤ ((ji35) : Int) := of_decide_eq_true (by first | (with_reducible assumption) | assumption)
                        have q42 : ((ji35) : Int) < ((x9_3.length : Int) : Int) := of_decide_eq_true (by first | (with_reducible assumption) | assumption)
                        obtain ⟨go42, co42, eo42, gb42, gl42, cl42, HG42⟩ := Kd.R_form HO_9.out (by omega)
                        (first | cases eo42 | (injection eo42 with ea_ en_ ec_; (first | subst ea_ | (injection ea_ with ea_; subst ea_)); subst ec_; clear en_))
                        have GB42 := am_ gb42
                        have GG42 := am_ HG42
                        clear gb42 gl42 HG42
                        (first | simp only [add_plain] at hx129_0 | skip)
                        (first | simp only [add_plain] at hx129_1 | skip)
                        (first | simp only [add_plain] at hx129_2 | skip)
                        (first | simp only [add_plain] at hx129_3 | skip)
                        (first | simp only [add_plain] at hx129_4 | skip)
                        obtain ⟨ce42, hcl42, hM42, hcc42, hfr42⟩ := Kd.R_elem HO_9.out z24 ((ji35) : Int) p42 q42
                        obtain rfl := k24_openM hM42
                        have hx42_0 : w115.cell? ⟨go42, ((ji35) : Int).toNat * 5, none⟩ = some (.int .u64 ((rd_T24 x9_3 (ji35)).f0)) := hcc42 0 _ rfl
                        have hx42_1 : w115.cell? ⟨go42, ((ji35) : Int).toNat * 5 + 1, none⟩ = some (.int .u64 ((rd_T24 x9_3 (ji35)).f1)) := hcc42 1 _ rfl
                        have hx42_2 : w115.cell? ⟨go42, ((ji35) : Int).toNat * 5 + 2, none⟩ = some (.int .u64 ((rd_T24 x9_3 (ji35)).f2)) := hcc42 2 _ rfl
                        have hx42_3 : w115.cell? ⟨go42, ((ji35) : Int).toNat * 5 + 3, none⟩ = some (.int .u64 ((rd_T24 x9_3 (ji35)).f3)) := hcc42 3 _ rfl
                        have hx42_4 : w115.cell? ⟨go42, ((ji35) : Int).toNat * 5 + 4, none⟩ = some (.bool ((rd_T24 x9_3 (ji35)).f4)) := hcc42 4 _ rfl
                        have hf42_0 : w115.frozen? ⟨go42, ((ji35) : Int).toNat * 5, none⟩ = false := hfr42 0
                        have hf42_1 : w115.frozen? ⟨go42, ((ji35) : Int).toNat * 5 + 1, none⟩ = false := hfr42 1
                        have hf42_2 : w115.frozen? ⟨go42, ((ji35) : Int).toNat * 5 + 2, none⟩ = false := hfr42 2
                        have hf42_3 : w115.frozen? ⟨go42, ((ji35) : Int).toNat * 5 + 3, none⟩ = false := hfr42 3
                        have hf42_4 : w115.frozen? ⟨go42, ((ji35) : Int).toNat * 5 + 4, none⟩ = false := hfr42 4
                        clear hcl42 hcc42 hfr42 hM42
                        replace p42 := eq_true p42
                        replace q42 := eq_true q42
                        have HX119 := am_ (show Kd.R k24 24 w115 w.heap.size (fun k_ => k_ ≠ gb137) (.slice (some ⟨go42, 0, none⟩) x9_3.length co32) x9_3 from (rx_ HO_9))
                        obtain ⟨ce119, hcl119, hM119, hcc119, hfr119⟩ := Kd.R_elem HX119.out z24 ((ji35) : Int) (of_decide_eq_true (by first | (with_reducible assumption) | assumption)) (by have h_ : ((ji35) : Int) < ((x9_3.length : Int) : Int) := of_decide_eq_true (by first | (with_reducible assumption) | assumption); first | exact h_ | (have e_ := (Kd.R_reads' HO_9.out).1; omega) | simpa using h_)
                        obtain rfl := k24_openM hM119
                        have HP119 := Kd.R_seg HX119.out ((ji35) : Int) (of_decide_eq_true (by first | (with_reducible assumption) | assumption)) (by have h_ : ((ji35) : Int) < ((x9_3.length : Int) : Int) := of_decide_eq_true (by first | (with_reducible assumption) | assumption); first | exact h_ | (have e_ := (Kd.R_reads' HO_9.out).1; omega) | simpa using h_) (seg := [.int .u64 t131, .int .u64 t132, .int .u64 t133, .int .u64 t134, .bool t135]) (j := 0) hcl119 hcc119 (show 5 ≤ 5 from by decide) (x' := (⟨t131, t132, t133, t134, t135⟩ : S24)) (k24_mkM _ _ _ (⟨t131, t132, t133, t134, t135⟩ : S24) ) (fun _ hk => hk)
                        have hx119_0 := hcc119 0 _ rfl
                        (try simp only [show (k24).sz = 5 from rfl, Nat.mul_one, Nat.add_zero] at hx119_0)
                        have hf119_0 := hfr119 0
                        (try simp only [show (k24).sz = 5 from rfl, Nat.mul_one, Nat.add_zero] at hf119_0)
                        have hx119_1 := hcc119 1 _ rfl
                        (try simp only [show (k24).sz = 5 from rfl, Nat.mul_one, Nat.add_zero] at hx119_1)
                        have hf119_1 := hfr119 1
                        (try simp only [show (k24).sz = 5 from rfl, Nat.mul_one, Nat.add_zero] at hf119_1)
                        have hx119_2 := hcc119 2 _ rfl
                        (try simp only [show (k24).sz = 5 from rfl, Nat.mul_one, Nat.add_zero] at hx119_2)
                        have hf119_2 := hfr119 2
                        (try simp only [show (k24).sz = 5 from rfl, Nat.mul_one, Nat.add_zero] at hf119_2)
                        have hx119_3 := hcc119 3 _ rfl
                        (try simp only [show (k24).sz = 5 from rfl, Nat.mul_one, Nat.add_zero] at hx119_3)
                        have hf119_3 := hfr119 3
                        (try simp only [show (k24).sz = 5 from rfl, Nat.mul_one, Nat.add_zero] at hf119_3)
                        have hx119_4 := hcc119 4 _ rfl
                        (try simp only [show (k24).sz = 5 from rfl, Nat.mul_one, Nat.add_zero] at hx119_4)
                        have hf119_4 := hfr119 4
                        (try simp only [show (k24).sz = 5 from rfl, Nat.mul_one, Nat.add_zero] at hf119_4)
                        clear hcl119 hcc119 hfr119 hM119
                        go_upto_region 27 with (first | ((with_reducible refine gate_store (t := 24) (p := 103) rfl ?_); refine store_event (t := 24) (p := 103) (v := ?vo_w120) (w1 := (((((w115.setCell ⟨go42, ((ji35) : Int).toNat * 5, none⟩ (.int .u64 t131)).setCell ⟨go42, ((ji35) : Int).toNat * 5 + 1, none⟩ (.int .u64 t132)).setCell ⟨go42, ((ji35) : Int).toNat * 5 + 2, none⟩ (.int .u64 t133)).setCell ⟨go42, ((ji35) : Int).toNat * 5 + 3, none⟩ (.int .u64 t134)).setCell ⟨go42, ((ji35) : Int).toNat * 5 + 4, none⟩ (.bool t135))) ?hg ?ho ?hn ?hr ?_; (case ho => rfl); (case hg => rfl); (case hn => rfl); (case hr => first | (go_simp; done) | (go_simp; rfl)); intro w120 hw; have hg : w115.grownBy w120 (some go42) := (by rw [hw]; exact HP119.2); have hp_ : Kd.R k24 24 w120 w.heap.size (fun k_ => k_ ≠ gb137) (.slice (some ⟨go42, 0, none⟩) x9_3.length co32) y138 := (by rw [hw, Ny138.out]; exact HP119.1); clear HP119; have n0_ := am_ (hp_); have n1_ := am_ (Kd.S_over' (v := (.slice (some ⟨go42, 0, none⟩) x9_3.length co32)) (by (with_reducible repeat (first | apply Kd.S_alloc | apply Kd.S_drewN | apply Kd.S_drew)); exact HO_10.out) (Kd.R_typed HO_9.out) (by decide) hg); have n2_ := am_ (blk_grown (g := gb117) (o := .cells #[.slice A0_0 l0_0.length c0_0, .slice A0_1 l0_1.length c0_1, .slice (some ad130) l0_2.length c0_2, .slice (some ad127) l0_3.length c0_3, .int .u64 a0_4] 38 (0, 0)) (bx_ BK117) hg (Kd.R_ne HO_9.out BK117.out (by decide))); have n3_ := am_ (blk_grown (g := gb118) (o := .cells #[.slice A0_0 l0_0.length c0_0, .slice A0_1 l0_1.length c0_1] 35 (0, 0)) (bx_ BK118) hg (Kd.R_ne HO_9.out BK118.out (by decide))); have n4_ := am_ (blk_grown (g := gb137) (o := .cells #[.int .u64 t131, .int .u64 t132, .int .u64 t133, .int .u64 t134, .bool t135] 24 (0, 0)) (bx_ BK137) hg (Kd.R_away HO_9.out (fun _ hk => hk))); have n5_ := am_ ((by rw [hw]; exact below_set (below_set (below_set (below_set (below_set (HB.out) GB42.out) GB42.out) GB42.out) GB42.out) GB42.out : Below w.heap.size w w120)); clear HO_9; clear HO_10; clear BK117; clear BK118; clear BK137; clear HB; have HO_9 := n0_; have HO_10 := n1_; have BK117 := n2_; have BK118 := n3_; have BK137 := n4_; have HB := n5_; clear n0_ n1_ n2_ n3_ n4_ n5_; clear hg hw hp_))
                        have H := HH.out
                        clear HH
                        cases t136 with
                        | false =>
                         have H' : Aside0 ((ferrulelaw07_BallotOne.l2 kj30 l0_2 l0_3 a0_4 t119 y138 x10_3 (wrap64 (x13_3 + 1)) l0_0 l0_1) = some r) := ⟨by rw [if_neg (show ¬ (false = true) by decide)] at H; exact H⟩
                         clear H
                         go_wp2
                         go_roundg kj30
                         case measure => have := HK1.out; have := HK2.out; have := HK3.out; have := HJ23.out; have := HJ30.out; omega
                         case rel => exact ⟨(y138), (x10_3), (wrap64 (x13_3 + 1)), (by first | rfl | (simp; done) | (simp [*]; done)), H', ⟨by have := HK1.out; have := HK2.out; have := HK3.out; have := HJ23.out; have := HJ30.out; omega⟩, ⟨by (with_reducible repeat (first | apply Kd.R_alloc | apply Kd.R_drewN | apply Kd.R_drew)); exact Kd.R_mono HO_9.out (fun _ hk => trivial)⟩, ⟨by (with_reducible repeat (first | apply Kd.S_alloc | apply Kd.S_drewN | apply Kd.S_drew)); exact HO_10.out⟩, ⟨bx_ BK117⟩, ⟨bx_ BK118⟩, ⟨hx_ HB⟩⟩
                        | true =>
                         rw [if_pos rfl] at H
                         have p139 : 0 ≤ ((ji38) : Int) := of_decide_eq_true (by first | (with_reducible assumption) | assumption)
                         have q139 : (ji38) < (l0_2.length : Int) := of_decide_eq_true (by first | (with_reducible assumption) | assumption)
                         obtain ⟨ad139, e139, hx139_0, hx139_1, hx139_2, hx139_3, hx139_4⟩ := at_T26 HR0_2.out (ji38) p139 q139
                         obtain rfl : ad130 = ad139 := (by injection e139)
                         replace hx139_0 := (HB.out.cell (World.block_lt_of_cell? w _ hx139_0)).trans hx139_0
                         replace hx139_4 := (HB.out.cell (World.block_lt_of_cell? w _ hx139_4)).trans hx139_4
                         clear hx139_1 hx139_2 hx139_3
                         replace p139 := eq_true p139
                         replace q139 := eq_true q139
                         obtain ⟨bq44, hbq44⟩ : ∃ b_ : Bool, b_ = ((rd_T26 l0_2 (ji38)).f4) := ⟨_, rfl⟩
                         rw [← hbq44] at H hx139_4
                         clear hbq44
                         cases bq44 with
                         | true =>
                          have H' : Aside0 ((ferrulelaw07_BallotOne.l2 kj30 l0_2 l0_3 a0_4 t119 y138 x10_3 (wrap64 (x13_3 + 1)) l0_0 l0_1) = some r) := ⟨by rw [if_pos rfl] at H; exact H⟩
                          clear H
                          go_wp2
                          go_roundg kj30
                          case measure => have := HK1.out; have := HK2.out; have := HK3.out; have := HJ23.out; have := HJ30.out; omega
                          case rel => exact ⟨(y138), (x10_3), (wrap64 (x13_3 + 1)), (by first | rfl | (simp; done) | (simp [*]; done)), H', ⟨by have := HK1.out; have := HK2.out; have := HK3.out; have := HJ23.out; have := HJ30.out; omega⟩, ⟨by (with_reducible repeat (first | apply Kd.R_alloc | apply Kd.R_drewN | apply Kd.R_drew)); exact Kd.R_mono HO_9.out (fun _ hk => trivial)⟩, ⟨by (with_reducible repeat (first | apply Kd.S_alloc | apply Kd.S_drewN | apply Kd.S_drew)); exact HO_10.out⟩, ⟨bx_ BK117⟩, ⟨bx_ BK118⟩, ⟨hx_ HB⟩⟩
                         | false =>
                          rw [if_neg (show ¬ (false = true) by decide)] at H
                          by_cases c61 : ((rd_T26 l0_2 (ji38)).f0) = a0_4
                          rotate_left
                          ·rw [if_neg c61] at H
                           have c61b0 : (((rd_T26 l0_2 (ji38)).f0) == a0_4) = false := beq_eq_false_iff_ne.mpr c61
                           clear c61
                           have H' := am_ H
                           clear H
                           go_wp2
                           go_roundg kj30
                           case measure => have := HK1.out; have := HK2.out; have := HK3.out; have := HJ23.out; have := HJ30.out; omega
                           case rel => exact ⟨(y138), (x10_3), (wrap64 (x13_3 + 1)), (by first | rfl | (simp; done) | (simp [*]; done)), H', ⟨by have := HK1.out; have := HK2.out; have := HK3.out; have := HJ23.out; have := HJ30.out; omega⟩, ⟨by (with_reducible repeat (first | apply Kd.R_alloc | apply Kd.R_drewN | apply Kd.R_drew)); exact Kd.R_mono HO_9.out (fun _ hk => trivial)⟩, ⟨by (with_reducible repeat (first | apply Kd.S_alloc | apply Kd.S_drewN | apply Kd.S_drew)); exact HO_10.out⟩, ⟨bx_ BK117⟩, ⟨bx_ BK118⟩, ⟨hx_ HB⟩⟩
                          rw [if_pos c61] at H
                          have c61b0 : (((rd_T26 l0_2 (ji38)).f0) == a0_4) = true := beq_iff_eq.mpr c61
                          clear c61
                          replace H : (if (ji38) < (x10_3.length : Int) then (if ([] : List Int).length + (rd_L4 x10_3 (ji38)).length < 17592186044416 then (if (ji35) < (l0_0.length : Int) then (if ([] ++ (rd_L4 x10_3 (ji38)) : List Int).length < 17592186044416 then (ferrulelaw07_BallotOne.l2 kj30 l0_2 l0_3 a0_4 t119 y138 (x10_3.set ((ji38) : Int).toNat (([] ++ (rd_L4 x10_3 (ji38)) : List Int) ++ [rd l0_0 (ji35)])) (wrap64 (x13_3 + 1)) l0_0 l0_1) else none) else none) else none) else none) = some r := H
                          by_cases c62 : (ji38) < (x10_3.length : Int)
                          rotate_left
                          ·rw [if_neg c62] at H; cases H
                          rw [if_pos c62] at H
                          by_cases c63 : ([] : List Int).length + (rd_L4 x10_3 (ji38)).length < 17592186044416
                          rotate_left
                          ·rw [if_neg c63] at H; cases H
                          rw [if_pos c63] at H
                          by_cases c64 : (ji35) < (l0_0.length : Int)
                          rotate_left
                          ·rw [if_neg c64] at H; cases H
                          rw [if_pos c64] at H
                          by_cases c65 : ([] ++ (rd_L4 x10_3 (ji38)) : List Int).length < 17592186044416
                          rotate_left
                          ·rw [if_neg c65] at H; cases H
                          rw [if_pos c65] at H
                          have c62b0 : decide ((ji38) < (x10_3.length : Int)) = true := decide_eq_true c62
                          have c64b0 : decide ((ji35) < (l0_0.length : Int)) = true := decide_eq_true c64
                          have LMc65 := am_ (show (rd_L4 x10_3 (ji38)).length < 17592186044416 from by simpa using c65)
                          clear c62 c63 c64 c65
                          have H' : Aside0 (ferrulelaw07_BallotOne.l2 kj30 l0_2 l0_3 a0_4 t119 y138 (x10_3.set ((ji38) : Int).toNat ((rd_L4 x10_3 (ji38)) ++ [rd l0_0 (ji35)])) (wrap64 (x13_3 + 1)) l0_0 l0_1 = some r) := ⟨H⟩
                          clear H
                          go_upto_region 28 with (fail)
                          have n0_ := am_ (Kd.R_drew HO_9.out)
                          have n1_ := am_ (Kd.S_drew HO_10.out)
                          have n2_ := am_ (blk_drew BK117.out)
                          have n3_ := am_ (blk_drew BK118.out)
                          have n5_ := am_ (below_drew1 HB.out)
                          clear HO_9 HO_10 BK117 BK118 BK137 HB
                          have HO_9 := n0_
                          have HO_10 := n1_
                          have BK117 := n2_
                          have BK118 := n3_
                          have HB := n5_
                          clear n0_ n1_ n2_ n3_ n5_
                          have p144 : 0 ≤ ((ji38) : Int) := of_decide_eq_true (by first | (with_reducible assumption) | assumption)
                          have q144 : (ji38) < (x10_3.length : Int) := of_decide_eq_true (by first | (with_reducible assumption) | assumption)
                          have p148 : 0 ≤ ((ji35) : Int) := of_decide_eq_true (by first | (with_reducible assumption) | assumption)
                          have q148 : (ji35) < (l0_0.length : Int) := of_decide_eq_true (by first | (with_reducible assumption) | assumption)
                          obtain ⟨go66, co66, eo66, gb66, gl66, cl66, HG66⟩ := Kd.S_form HO_10.out (by omega)
                          subst eo66
                          have GB66 := am_ gb66
                          clear gb66 gl66 HG66
                          obtain ⟨ad144, A144_0, c144_0, e144, hx144_0, hl144_0, hi144_0⟩ := at_L4 (Kd.S_reads' HO_10.out).2.2 (ji38) p144 q144
                          cases e144
                          (first | simp only [add_plain] at hx144_0 | skip)
                          obtain ⟨ad148, e148, hx148_0⟩ := Kd.at_int HR0_0.out (ji35) p148 q148
                          cases e148
                          replace hx148_0 := (HB.out.cell (World.block_lt_of_cell? w _ hx148_0)).trans hx148_0
                          have HI144 := am_ hi144_0
                          clear hi144_0
                          have P144 := am_ p144
                          have Q144 := am_ q144
                          replace p144 := eq_true p144
                          replace q144 := eq_true q144
                          replace p148 := eq_true p148
                          replace q148 := eq_true q148
                          refine start_ (n := 17) (S := fun w' => w'.cell? ⟨go66, (ji38).toNat, none⟩ = some (.slice A144_0 (rd_L4 x10_3 (ji38)).length c144_0) ∧ w'.cell? ⟨gb118, 0, none⟩ = some (.slice (some ad148) l0_0.length c0_0) ∧ w'.cell? (ad148.add (ji35).toNat) = some (.int .u64 (rd l0_0 (ji35)))) (ds := [16]) bN20_ (by kernel_rfl) rfl rfl ⟨hx144_0, (blk_cell BK118.out 0).trans rfl, hx148_0⟩ (fun hHeld => ?_); refine with_tabW ferrulelaw07_BallotOne.tab28 ferrulelaw07_BallotOne.bits28 (fun HT_ HW_ => ?_)
                          clear hx144_0 hx148_0
                          generalize w120.drew = w0 at HO_9 HO_10 BK117 BK118 HB HI144 hHeld ⊢
                          have HH0 := am_ hHeld
                          refine pure_ (i := 0) (N := some 122) (v := ?_) (a' := ?_) bN21_ rfl rfl (any_of HT_.out (by kernel_rfl)) (fun _ _ _ h => h) (Or.inl ⟨by rfl, ?_⟩) ?_ ?_; rotate_left; (intro w'; go_simp; with_reducible rfl); rotate_left; (simp only [Act.put, List.setIfInBounds_toArray, List.set_cons_zero, List.set_cons_succ, i64_w, i32_w]; rfl)
                          refine pure_ (i := 1) (N := some 123) (v := ?_) (a' := ?_) bN22_ rfl rfl (any_of HT_.out (by kernel_rfl)) (fun _ _ _ h => h) (Or.inl ⟨by rfl, ?_⟩) ?_ ?_; rotate_left; (intro w'; go_simp; with_reducible rfl); rotate_left; (simp only [Act.put, List.setIfInBounds_toArray, List.set_cons_zero, List.set_cons_succ, i64_w, i32_w]; rfl)
                          refine pure_ (i := 3) (N := some 125) (v := ?_) (a' := ?_) bN23_ rfl rfl (any_of HT_.out (by kernel_rfl)) (fun _ _ _ h => h) (Or.inl ⟨by rfl, ?_⟩) ?_ ?_; rotate_left; (intro w'; go_simp; with_reducible rfl); rotate_left; (simp only [Act.put, List.setIfInBounds_toArray, List.set_cons_zero, List.set_cons_succ, i64_w, i32_w]; rfl)
                          refine pure_ (i := 4) (N := some 126) (v := ?_) (a' := ?_) bN24_ rfl rfl (any_of HT_.out (by kernel_rfl)) (fun _ _ _ h => h) (Or.inl ⟨by rfl, ?_⟩) ?_ ?_; rotate_left; (intro w'; go_simp; with_reducible rfl); rotate_left; (simp only [Act.put, List.setIfInBounds_toArray, List.set_cons_zero, List.set_cons_succ, i64_w, i32_w]; rfl)
                          refine pure_ (i := 5) (N := some 127) (v := ?_) (a' := ?_) bN25_ rfl rfl (any_of HT_.out (by kernel_rfl)) (fun _ _ _ h => h) (Or.inl ⟨by rfl, ?_⟩) ?_ ?_; rotate_left; (intro w'; go_simp; with_reducible rfl); rotate_left; (simp only [Act.put, List.setIfInBounds_toArray, List.set_cons_zero, List.set_cons_succ, i64_w, i32_w]; rfl)
                          refine pure_ (i := 8) (N := some 130) (v := ?_) (a' := ?_) bN26_ rfl rfl (any_of HT_.out (by kernel_rfl)) (fun _ _ _ h => h) (Or.inl ⟨by rfl, ?_⟩) ?_ ?_; rotate_left; (intro w'; go_simp; with_reducible rfl); rotate_left; (simp only [Act.put, List.setIfInBounds_toArray, List.set_cons_zero, List.set_cons_succ, i64_w, i32_w]; rfl)
                          refine pure_ (i := 10) (N := some 132) (v := ?_) (a' := ?_) bN27_ rfl rfl (any_of HT_.out (by kernel_rfl)) (fun _ _ _ h => h) (Or.inl ⟨by rfl, ?_⟩) ?_ ?_; rotate_left; (intro w'; go_simp; with_reducible rfl); rotate_left; (simp only [Act.put, List.setIfInBounds_toArray, List.set_cons_zero, List.set_cons_succ, i64_w, i32_w]; rfl)
                          refine take_ (i := 6) (N := some 128) (v := ?_) (a' := ?_) bN28_ rfl rfl (take_ofW HT_.out HW_.out (by kernel_rfl)) (fun _ _ _ h => h) (Or.inl ⟨by rfl, ?_⟩) hHeld ?_ ?_; rotate_left; (rintro w' ⟨s0, s1, s2⟩; go_simp; with_reducible rfl); rotate_left; (simp only [Act.put, List.setIfInBounds_toArray, List.set_cons_zero, List.set_cons_succ, i64_w, i32_w]; rfl)
                          refine take_ (i := 9) (N := some 131) (v := ?_) (a' := ?_) bN29_ rfl rfl (take_ofW HT_.out HW_.out (by kernel_rfl)) (fun _ _ _ h => h) (Or.inl ⟨by rfl, ?_⟩) hHeld ?_ ?_; rotate_left; (rintro w' ⟨s0, s1, s2⟩; go_simp; with_reducible rfl); rotate_left; (simp only [Act.put, List.setIfInBounds_toArray, List.set_cons_zero, List.set_cons_succ, i64_w, i32_w]; rfl)
                          refine pure_ (i := 11) (N := some 133) (v := ?_) (a' := ?_) bN30_ rfl rfl (any_of HT_.out (by kernel_rfl)) (fun _ _ _ h => h) (Or.inl ⟨by rfl, ?_⟩) ?_ ?_; rotate_left; (intro w'; go_simp; with_reducible rfl); rotate_left; (simp only [Act.put, List.setIfInBounds_toArray, List.set_cons_zero, List.set_cons_succ, i64_w, i32_w]; rfl)
                          refine take_ (i := 12) (N := some 134) (v := ?_) (a' := ?_) bN31_ rfl rfl (take_ofW HT_.out HW_.out (by kernel_rfl)) (fun _ _ _ h => h) (Or.inl ⟨by rfl, ?_⟩) hHeld ?_ ?_; rotate_left; (rintro w' ⟨s0, s1, s2⟩; go_simp; with_reducible rfl); rotate_left; (simp only [Act.put, List.setIfInBounds_toArray, List.set_cons_zero, List.set_cons_succ, i64_w, i32_w]; rfl)
                          refine join_ (σ := Value × Value × Option Addr × Nat) 3 bN32_ (fun s_ => [(124, s_.1), (129, s_.2.1), (135, .slice s_.2.2.1 1 s_.2.2.2)]) (fun s_ w' => (w'.cell? ⟨go66, (ji38).toNat, none⟩ = some (.slice A144_0 (rd_L4 x10_3 (ji38)).length c144_0) ∧ w'.cell? ⟨gb118, 0, none⟩ = some (.slice (some ad148) l0_0.length c0_0) ∧ w'.cell? (ad148.add (ji35).toNat) = some (.int .u64 (rd l0_0 (ji35)))) ∧ Kd.R (Kd.int .u64) 22 w' w0.heap.size (fun _ => True) s_.2.1 (rd_L4 x10_3 (ji38)) ∧ Kd.C (Kd.int .u64) w' s_.2.2.1 1 [rd l0_0 (ji35)] ∧ Below w0.heap.size w0 w') ?_ ?_
                          rotate_left
                          ·intro hCont
                           have BW := am_ (Below.refl w0.heap.size w0)
                           refine two_ (i := 2) (j := 13) (Ni := some 124) (Nj := some 135) bN33_ bN34_ rfl rfl rfl rfl (two_of HT_.out (by kernel_rfl)) (by decide) (by decide) (fun K hK => ?_) (fun K hK => ?_)
                           ·refine Kd.R_lit_step (Kd.int .u64) (w0 := w0) w0.heap.size 22 ?hw (N := 124) ?hd (xs := ([] : List Int)) (inner := []) (ok := fun _ => True) (okp := fun _ => True) ?hr ?hp (fun _ hk => hk) trivial (Below.refl _ _) (Nat.le_refl _) (by simp) ?_; (case hw => rfl); (case hd => rfl); (case hr => first | (go_simp; done) | (go_simp; rfl)); (case hp => exact (Reps.none _ _))
                            intro v124 w1_ ho hb hg hat
                            have HO124 := am_ (Kd.R_lower ho BW.out.size)
                            have m2_ := am_ (below_step BW.out hb)
                            clear BW
                            have BW := m2_
                            clear m2_ ho hb hg hat
                            refine hK.out _ _ ⟨(BW.out.cell (World.block_lt_of_cell? _ _ HH0.out.1)).trans HH0.out.1, (BW.out.cell (World.block_lt_of_cell? _ _ HH0.out.2.1)).trans HH0.out.2.1, (BW.out.cell (World.block_lt_of_cell? _ _ HH0.out.2.2)).trans HH0.out.2.2⟩ (fun hHeld => ?_)
                            clear hK K
                            refine norm_ (a' := ?_) ?_ ?_
                            rotate_left
                            ·show Act.put _ (some 124) _ = _
                             simp only [Act.put, List.setIfInBounds_toArray, List.set_cons_zero, List.set_cons_succ, i64_w, i32_w]
                             rfl
                            refine two_ (i := 7) (j := 13) (Ni := some 129) (Nj := some 135) bN35_ bN36_ rfl rfl rfl rfl (two_of HT_.out (by kernel_rfl)) (by decide) (by decide) (fun K hK => ?_) (fun K hK => ?_)
                            ·refine Kd.R_append_rows_step (Kd.int .u64) (w0 := w0) w0.heap.size ?hw (.tmp 124) (.tmp 128) 33 22 (.int .u64 0) 8 rfl Try.underlying33 info22 rfl (by decide) (by omega) v124 ([] : List Int) (rd_L4 x10_3 (ji38)) _ _ _ (fun _ => True) (fun _ => False) rfl rfl HO124.out (Kd.C_below HI144.out BW.out) (fun _ _ h => h) (fun _ h => h.elim) (fun _ _ => trivial) BW.out BW.out.size ?aL ?_; (case hw => rfl); (case aL => have := LMc65.out; simp only [List.length_nil]; omega)
                             intro v129 w2_ ho hb hg hat
                             have HO129 := am_ (show Kd.R (Kd.int .u64) 22 w2_ w0.heap.size (fun _ => True) v129 (rd_L4 x10_3 (ji38)) from ho)
                             have m2_ := am_ hb
                             clear BW
                             have BW := m2_
                             clear m2_ ho hb hg hat HO124
                             refine hK.out _ _ ⟨(BW.out.cell (World.block_lt_of_cell? _ _ HH0.out.1)).trans HH0.out.1, (BW.out.cell (World.block_lt_of_cell? _ _ HH0.out.2.1)).trans HH0.out.2.1, (BW.out.cell (World.block_lt_of_cell? _ _ HH0.out.2.2)).trans HH0.out.2.2⟩ (fun hHeld => ?_)
                             clear hK K
                             refine norm_ (a' := ?_) ?_ ?_
                             rotate_left
                             ·show Act.put _ (some 129) _ = _
                              simp only [Act.put, List.setIfInBounds_toArray, List.set_cons_zero, List.set_cons_succ, i64_w, i32_w]
                              rfl
                             refine one_ (i := 13) (N := some 135) bN32_ rfl rfl (one_of HT_.out (by kernel_rfl)) (by decide) (fun K hK => ?_)
                             refine Kd.R_lit_step (Kd.int .u64) (w0 := w2_) w2_.heap.size 22 ?hw (N := 135) ?hd (xs := [rd l0_0 (ji35)]) (inner := [.int .u64 (rd l0_0 (ji35))]) (ok := fun _ => True) (okp := fun _ => True) ?hr ?hp (fun _ hk => hk) trivial (Below.refl _ _) (Nat.le_refl _) (by simp) ?_; (case hw => rfl); (case hd => rfl); (case hr => first | (go_simp; done) | (go_simp; rfl)); (case hp => exact (Reps.one rfl (Reps.none _ _)))
                             intro v135 w3_ ho hb hg hat
                             have HO135 := am_ (Kd.R_lower ho BW.out.size)
                             have m1_ := am_ (Kd.R_below HO129.out hb)
                             clear HO129
                             have HO129 := m1_
                             clear m1_
                             have m2_ := am_ (below_step BW.out hb)
                             clear BW
                             have BW := m2_
                             clear m2_ ho hb hg hat
                             obtain ⟨A135, c135, e135_⟩ := Kd.R_slice HO135.out
                             have e135 : v135 = .slice A135 1 c135 := e135_
                             clear e135_
                             subst e135
                             refine hK.out _ _ ⟨(BW.out.cell (World.block_lt_of_cell? _ _ HH0.out.1)).trans HH0.out.1, (BW.out.cell (World.block_lt_of_cell? _ _ HH0.out.2.1)).trans HH0.out.2.1, (BW.out.cell (World.block_lt_of_cell? _ _ HH0.out.2.2)).trans HH0.out.2.2⟩ (fun hHeld => ?_)
                             clear hK K
                             refine norm_ (a' := ?_) ?_ ?_
                             rotate_left
                             ·show Act.put _ (some 135) _ = _
                              simp only [Act.put, List.setIfInBounds_toArray, List.set_cons_zero, List.set_cons_succ, i64_w, i32_w]
                              rfl
                             exact norm_ (by simp only [putAll, Act.put, List.setIfInBounds_toArray, List.set_cons_zero, List.set_cons_succ]) (hCont (v124, v129, A135, c135) _ ⟨hHeld, HO129.out, (Kd.R_reads' HO135.out).2.2, BW.out⟩)
                            ·refine Kd.R_lit_step (Kd.int .u64) (w0 := w1_) w1_.heap.size 22 ?hw (N := 135) ?hd (xs := [rd l0_0 (ji35)]) (inner := [.int .u64 (rd l0_0 (ji35))]) (ok := fun _ => True) (okp := fun _ => True) ?hr ?hp (fun _ hk => hk) trivial (Below.refl _ _) (Nat.le_refl _) (by simp) ?_; (case hw => rfl); (case hd => rfl); (case hr => first | (go_simp; done) | (go_simp; rfl)); (case hp => exact (Reps.one rfl (Reps.none _ _)))
                             intro v135 w2_ ho hb hg hat
                             have HO135 := am_ (Kd.R_reok (ok := fun k_ => some k_ ≠ (v124 : Value).ownBlock) rfl (Kd.R_lower ho BW.out.size) (fun k_ hk he => Nat.lt_irrefl _ (Nat.lt_of_lt_of_le (Kd.R_lt HO124.out k_ he.symm) (Kd.R_base ho k_ hk))))
                             have m1_ := am_ (Kd.R_below HO124.out hb)
                             clear HO124
                             have HO124 := m1_
                             clear m1_
                             have m2_ := am_ (below_step BW.out hb)
                             clear BW
                             have BW := m2_
                             clear m2_ ho hb hg hat
                             obtain ⟨A135, c135, e135_⟩ := Kd.R_slice HO135.out
                             have e135 : v135 = .slice A135 1 c135 := e135_
                             clear e135_
                             subst e135
                             refine hK.out _ _ ⟨(BW.out.cell (World.block_lt_of_cell? _ _ HH0.out.1)).trans HH0.out.1, (BW.out.cell (World.block_lt_of_cell? _ _ HH0.out.2.1)).trans HH0.out.2.1, (BW.out.cell (World.block_lt_of_cell? _ _ HH0.out.2.2)).trans HH0.out.2.2⟩ (fun hHeld => ?_)
                             clear hK K
                             refine norm_ (a' := ?_) ?_ ?_
                             rotate_left
                             ·show Act.put _ (some 135) _ = _
                              simp only [Act.put, List.setIfInBounds_toArray, List.set_cons_zero, List.set_cons_succ, i64_w, i32_w]
                              rfl
                             refine one_ (i := 7) (N := some 129) bN32_ rfl rfl (one_of HT_.out (by kernel_rfl)) (by decide) (fun K hK => ?_)
                             refine Kd.R_append_rows_step (Kd.int .u64) (w0 := w0) w0.heap.size ?hw (.tmp 124) (.tmp 128) 33 22 (.int .u64 0) 8 rfl Try.underlying33 info22 rfl (by decide) (by omega) v124 ([] : List Int) (rd_L4 x10_3 (ji38)) _ _ _ (fun _ => True) (fun _ => False) rfl rfl HO124.out (Kd.C_below HI144.out BW.out) (fun _ _ h => h) (fun _ h => h.elim) (fun _ _ => trivial) BW.out BW.out.size ?aL ?_; (case hw => rfl); (case aL => have := LMc65.out; simp only [List.length_nil]; omega)
                             intro v129 w3_ ho hb hg hat
                             have HO129 := am_ (show Kd.R (Kd.int .u64) 22 w3_ w0.heap.size (fun _ => True) v129 (rd_L4 x10_3 (ji38)) from ho)
                             have m1_ := am_ (Kd.R_after (ok := fun _ => True) (Kd.R_mono HO135.out (fun _ hk => ⟨trivial, hk⟩)) hg hat)
                             clear HO135
                             have HO135 := m1_
                             clear m1_
                             have m2_ := am_ hb
                             clear BW
                             have BW := m2_
                             clear m2_ ho hb hg hat HO124
                             refine hK.out _ _ ⟨(BW.out.cell (World.block_lt_of_cell? _ _ HH0.out.1)).trans HH0.out.1, (BW.out.cell (World.block_lt_of_cell? _ _ HH0.out.2.1)).trans HH0.out.2.1, (BW.out.cell (World.block_lt_of_cell? _ _ HH0.out.2.2)).trans HH0.out.2.2⟩ (fun hHeld => ?_)
                             clear hK K
                             refine norm_ (a' := ?_) ?_ ?_
                             rotate_left
                             ·show Act.put _ (some 129) _ = _
                              simp only [Act.put, List.setIfInBounds_toArray, List.set_cons_zero, List.set_cons_succ, i64_w, i32_w]
                              rfl
                             exact norm_ (by simp only [putAll, Act.put, List.setIfInBounds_toArray, List.set_cons_zero, List.set_cons_succ]) (hCont (v124, v129, A135, c135) _ ⟨hHeld, HO129.out, (Kd.R_reads' HO135.out).2.2, BW.out⟩)
                           ·refine Kd.R_lit_step (Kd.int .u64) (w0 := w0) w0.heap.size 22 ?hw (N := 135) ?hd (xs := [rd l0_0 (ji35)]) (inner := [.int .u64 (rd l0_0 (ji35))]) (ok := fun _ => True) (okp := fun _ => True) ?hr ?hp (fun _ hk => hk) trivial (Below.refl _ _) (Nat.le_refl _) (by simp) ?_; (case hw => rfl); (case hd => rfl); (case hr => first | (go_simp; done) | (go_simp; rfl)); (case hp => exact (Reps.one rfl (Reps.none _ _)))
                            intro v135 w1_ ho hb hg hat
                            have HO135 := am_ (Kd.R_lower ho BW.out.size)
                            have m2_ := am_ (below_step BW.out hb)
                            clear BW
                            have BW := m2_
                            clear m2_ ho hb hg hat
                            obtain ⟨A135, c135, e135_⟩ := Kd.R_slice HO135.out
                            have e135 : v135 = .slice A135 1 c135 := e135_
                            clear e135_
                            subst e135
                            refine hK.out _ _ ⟨(BW.out.cell (World.block_lt_of_cell? _ _ HH0.out.1)).trans HH0.out.1, (BW.out.cell (World.block_lt_of_cell? _ _ HH0.out.2.1)).trans HH0.out.2.1, (BW.out.cell (World.block_lt_of_cell? _ _ HH0.out.2.2)).trans HH0.out.2.2⟩ (fun hHeld => ?_)
                            clear hK K
                            refine norm_ (a' := ?_) ?_ ?_
                            rotate_left
                            ·show Act.put _ (some 135) _ = _
                             simp only [Act.put, List.setIfInBounds_toArray, List.set_cons_zero, List.set_cons_succ, i64_w, i32_w]
                             rfl
                            refine one_ (i := 2) (N := some 124) bN36_ rfl rfl (one_of HT_.out (by kernel_rfl)) (by decide) (fun K hK => ?_)
                            refine Kd.R_lit_step (Kd.int .u64) (w0 := w1_) w1_.heap.size 22 ?hw (N := 124) ?hd (xs := ([] : List Int)) (inner := []) (ok := fun _ => True) (okp := fun _ => True) ?hr ?hp (fun _ hk => hk) trivial (Below.refl _ _) (Nat.le_refl _) (by simp) ?_; (case hw => rfl); (case hd => rfl); (case hr => first | (go_simp; done) | (go_simp; rfl)); (case hp => exact (Reps.none _ _))
                            intro v124 w2_ ho hb hg hat
                            have HO124 := am_ (Kd.R_lower ho BW.out.size)
                            have m1_ := am_ (Kd.R_elder' HO135.out (Kd.R_base ho) hb)
                            clear HO135
                            have HO135 := m1_
                            clear m1_
                            have m2_ := am_ (below_step BW.out hb)
                            clear BW
                            have BW := m2_
                            clear m2_ ho hb hg hat
                            refine hK.out _ _ ⟨(BW.out.cell (World.block_lt_of_cell? _ _ HH0.out.1)).trans HH0.out.1, (BW.out.cell (World.block_lt_of_cell? _ _ HH0.out.2.1)).trans HH0.out.2.1, (BW.out.cell (World.block_lt_of_cell? _ _ HH0.out.2.2)).trans HH0.out.2.2⟩ (fun hHeld => ?_)
                            clear hK K
                            refine norm_ (a' := ?_) ?_ ?_
                            rotate_left
                            ·show Act.put _ (some 124) _ = _
                             simp only [Act.put, List.setIfInBounds_toArray, List.set_cons_zero, List.set_cons_succ, i64_w, i32_w]
                             rfl
                            refine one_ (i := 7) (N := some 129) bN32_ rfl rfl (one_of HT_.out (by kernel_rfl)) (by decide) (fun K hK => ?_)
                            refine Kd.R_append_rows_step (Kd.int .u64) (w0 := w0) w0.heap.size ?hw (.tmp 124) (.tmp 128) 33 22 (.int .u64 0) 8 rfl Try.underlying33 info22 rfl (by decide) (by omega) v124 ([] : List Int) (rd_L4 x10_3 (ji38)) _ _ _ (fun _ => True) (fun _ => False) rfl rfl HO124.out (Kd.C_below HI144.out BW.out) (fun _ _ h => h) (fun _ h => h.elim) (fun _ _ => trivial) BW.out BW.out.size ?aL ?_; (case hw => rfl); (case aL => have := LMc65.out; simp only [List.length_nil]; omega)
                            intro v129 w3_ ho hb hg hat
                            have HO129 := am_ (show Kd.R (Kd.int .u64) 22 w3_ w0.heap.size (fun _ => True) v129 (rd_L4 x10_3 (ji38)) from ho)
                            have m1_ := am_ (Kd.R_after (ok := fun _ => True) (Kd.R_mono HO135.out (fun _ hk => ⟨trivial, hk.2⟩)) hg hat)
                            clear HO135
                            have HO135 := m1_
                            clear m1_
                            have m2_ := am_ hb
                            clear BW
                            have BW := m2_
                            clear m2_ ho hb hg hat HO124
                            refine hK.out _ _ ⟨(BW.out.cell (World.block_lt_of_cell? _ _ HH0.out.1)).trans HH0.out.1, (BW.out.cell (World.block_lt_of_cell? _ _ HH0.out.2.1)).trans HH0.out.2.1, (BW.out.cell (World.block_lt_of_cell? _ _ HH0.out.2.2)).trans HH0.out.2.2⟩ (fun hHeld => ?_)
                            clear hK K
                            refine norm_ (a' := ?_) ?_ ?_
                            rotate_left
                            ·show Act.put _ (some 129) _ = _
                             simp only [Act.put, List.setIfInBounds_toArray, List.set_cons_zero, List.set_cons_succ, i64_w, i32_w]
                             rfl
                            exact norm_ (by simp only [putAll, Act.put, List.setIfInBounds_toArray, List.set_cons_zero, List.set_cons_succ]) (hCont (v124, v129, A135, c135) _ ⟨hHeld, HO129.out, (Kd.R_reads' HO135.out).2.2, BW.out⟩)
                          rintro ⟨v124, v129, A135, c135⟩ w3_ ⟨hHeld, ho129, hc135, hb3⟩
                          refine norm_ (a' := ?_) ?_ ?_; rotate_left; (simp only [putAll, Act.put, List.setIfInBounds_toArray, List.set_cons_zero, List.set_cons_succ]; rfl)
                          refine one_ (i := 14) (N := some 136) bN37_ rfl rfl (one_of HT_.out (by kernel_rfl)) (by decide) (fun K hK => ?_)
                          refine Kd.R_append_rows_step (Kd.int .u64) (w0 := w0) w0.heap.size ?hw (.tmp 129) (.tmp 135) 33 22 (.int .u64 0) 8 rfl Try.underlying33 info22 rfl (by decide) (by omega) v129 (rd_L4 x10_3 (ji38)) [rd l0_0 (ji35)] _ _ _ (fun _ => True) (fun _ => False) rfl rfl ho129 hc135 (fun _ _ h => h) (fun _ h => h.elim) (fun _ _ => trivial) hb3 hb3.size ?aL ?_; (case hw => rfl); (case aL => have := LMc65.out; omega)
                          intro v136 w4_ ho hb hg hat
                          clear hg hat ho129 hc135 hb3
                          have BW := am_ hb
                          refine hK.out _ _ ⟨(BW.out.cell (World.block_lt_of_cell? _ _ HH0.out.1)).trans HH0.out.1, (BW.out.cell (World.block_lt_of_cell? _ _ HH0.out.2.1)).trans HH0.out.2.1, (BW.out.cell (World.block_lt_of_cell? _ _ HH0.out.2.2)).trans HH0.out.2.2⟩ (fun hHeld => ?_)
                          clear hK K
                          refine norm_ (a' := ?_) ?_ ?_
                          rotate_left
                          ·show Act.put _ (some 136) _ = _
                           simp only [Act.put, List.setIfInBounds_toArray, List.set_cons_zero, List.set_cons_succ, i64_w, i32_w]
                           rfl
                          have HX89 := am_ (show Kd.S (Kd.slice 22 (Kd.int .u64)) 33 w4_ w.heap.size (fun k_ => ((fun _ => True)) k_ ∧ ¬ ((fun k_ => some k_ = (v136 : Value).ownBlock)) k_) (.slice (some ⟨go66, 0, none⟩) x10_3.length co66) x10_3 from Kd.S_mono (Kd.S_elder' HO_10.out (Kd.R_base ho) hb) (fun k_ hk => ⟨trivial, fun e_ => hk.2 e_⟩))
                          have n0_ := am_ (Kd.R_below HO_9.out hb)
                          have n1_ := am_ (Kd.S_below HO_10.out hb)
                          have n2_ := am_ (blk_below BK117.out hb)
                          have n3_ := am_ (blk_below BK118.out hb)
                          have n4_ := am_ (Kd.R_lower ho HB.out.size)
                          have n5_ := am_ (below_step HB.out hb)
                          clear HO_9 HO_10 BK117 BK118 HB HI144 ho hb BW HH0 hHeld
                          have HO_9 := n0_
                          have HO_10 := n1_
                          have BK117 := n2_
                          have BK118 := n3_
                          have HO136 := n4_
                          have HB := n5_
                          clear n0_ n1_ n2_ n3_ n4_ n5_
                          have HRR := am_ (Kd.R_mono (ok' := fun k_ => ((fun _ => True)) k_ ∧ k_ ≠ go66) (Kd.R_apart' HO136.out (Kd.S_typed HO_10.out) (by decide)) (fun k_ hk => ⟨trivial, fun e_ => hk.2 (by rw [e_]; rfl)⟩))
                          obtain ⟨A136, c136, e136⟩ := Kd.R_slice HO136.out
                          subst e136
                          obtain ⟨oki89, ce89, hcl89, hM89, hcc89, hfr89, hoki89, hH89⟩ := Kd.S_elem HX89.out [] ((ji38) : Int) P144.out Q144.out
                          obtain ⟨ve89_0, rfl, ge89_0⟩ := hM89
                          have HP89 := am_ (Kd.S_seg hH89 P144.out Q144.out (seg := [.slice A136 ((rd_L4 x10_3 (ji38)) ++ [rd l0_0 (ji35)]).length c136]) (j := 0) (show 1 ≤ 1 from by decide) (x' := (rd_L4 x10_3 (ji38)) ++ [rd l0_0 (ji35)]) (Kd.M_row (Kd.R_mono (Kd.R_tight rfl HRR.out) (fun _ h_ => Or.inr (h_)))) (fun _ hk => hk) (fun k_ hk_ => HRR.out.1 k_ hk_.symm))
                          have hx89_0 := hcc89 0 _ rfl
                          (try simp only [show ((Kd.slice 22 (Kd.int .u64))).sz = 1 from rfl, Nat.mul_one, Nat.add_zero] at hx89_0)
                          have hf89_0 := hfr89 0
                          (try simp only [show ((Kd.slice 22 (Kd.int .u64))).sz = 1 from rfl, Nat.mul_one, Nat.add_zero] at hf89_0)
                          clear hcl89 hcc89 hfr89 hoki89 hH89 ge89_0 HX89 HRR
                          refine pure_ (i := 15) (N := some 137) (v := ?_) (a' := ?_) bN38_ rfl rfl (any_of HT_.out (by kernel_rfl)) (fun _ _ _ h => h) (Or.inl ⟨by rfl, ?_⟩) ?_ ?_; rotate_left; (intro w'; go_simp; with_reducible rfl); rotate_left; (simp only [Act.put, List.setIfInBounds_toArray, List.set_cons_zero, List.set_cons_succ, i64_w, i32_w]; rfl)
                          refine last_ (i := 16) (N := none) bN39_ rfl rfl (one_of HT_.out (by kernel_rfl)) (by decide) (fun K hK => ?_)
                          refine skip_ (w1 := w4_.setCell ⟨go66, ((ji38) : Int).toNat, none⟩ (.slice A136 ((rd_L4 x10_3 (ji38)) ++ [rd l0_0 (ji35)]).length c136)) (by rfl) rfl ?_ ?_
                          ·first | (go_simp; done) | (go_simp; rfl)
                          refine hK.out _ _ ?_
                          refine done_ (done_of HT_.out (by kernel_rfl)) ?_
                          clear hK K
                          have hp_ := HP89.out
                          simp only [show ((Kd.slice 22 (Kd.int .u64))).sz = 1 from rfl, Nat.mul_one, Nat.add_zero] at hp_
                          obtain ⟨hp1, hg⟩ := hp_
                          clear HP89
                          have HO10 := am_ (show Kd.S (Kd.slice 22 (Kd.int .u64)) 33 (w4_.setCell ⟨go66, ((ji38) : Int).toNat, none⟩ (.slice A136 ((rd_L4 x10_3 (ji38)) ++ [rd l0_0 (ji35)]).length c136)) w.heap.size (fun _ => True) (.slice (some ⟨go66, 0, none⟩) x10_3.length co66) (x10_3.set ((ji38) : Int).toNat ((rd_L4 x10_3 (ji38)) ++ [rd l0_0 (ji35)])) from hp1)
                          have hgg : w4_.grownBy (w4_.setCell ⟨go66, ((ji38) : Int).toNat, none⟩ (.slice A136 ((rd_L4 x10_3 (ji38)) ++ [rd l0_0 (ji35)]).length c136)) (some go66) := hg
                          have n0_ := am_ (Kd.R_over' (v := (.slice (some ⟨go66, 0, none⟩) x10_3.length co66)) HO_9.out (Kd.S_typed HO_10.out) (by decide) hgg)
                          have n2_ := am_ (blk_grown BK117.out hgg (Kd.S_ne HO_10.out BK117.out (by decide)))
                          have n3_ := am_ (blk_grown BK118.out hgg (Kd.S_ne HO_10.out BK118.out (by decide)))
                          have n5_ := am_ (show Below w.heap.size w (w4_.setCell ⟨go66, ((ji38) : Int).toNat, none⟩ (.slice A136 ((rd_L4 x10_3 (ji38)) ++ [rd l0_0 (ji35)]).length c136)) from below_set HB.out GB66.out)
                          clear HO_9 HO_10 BK117 BK118 HB hp1 hg hgg hx89_0 hf89_0 HO136
                          have HO_9 := n0_
                          have HO_10 := HO10
                          have BK117 := n2_
                          have BK118 := n3_
                          have HB := n5_
                          clear n0_ n2_ n3_ n5_ HO10
                          generalize w4_.setCell ⟨go66, ((ji38) : Int).toNat, none⟩ (.slice A136 ((rd_L4 x10_3 (ji38)) ++ [rd l0_0 (ji35)]).length c136) = w5_ at HO_9 HO_10 BK117 BK118 HB ⊢
                          go_wp2
                          go_roundg kj30
                          case measure => have := HK1.out; have := HK2.out; have := HK3.out; have := HJ23.out; have := HJ30.out; omega
                          case rel => exact ⟨(y138), ((x10_3.set ((ji38) : Int).toNat ((rd_L4 x10_3 (ji38)) ++ [rd l0_0 (ji35)]))), (wrap64 (x13_3 + 1)), (by first | rfl | (simp; done) | (simp [*]; done)), H', ⟨by have := HK1.out; have := HK2.out; have := HK3.out; have := HJ23.out; have := HJ30.out; omega⟩, ⟨by (with_reducible repeat (first | apply Kd.R_alloc | apply Kd.R_drewN | apply Kd.R_drew)); exact Kd.R_mono HO_9.out (fun _ hk => trivial)⟩, ⟨by (with_reducible repeat (first | apply Kd.S_alloc | apply Kd.S_drewN | apply Kd.S_drew)); exact HO_10.out⟩, ⟨bx_ BK117⟩, ⟨bx_ BK118⟩, ⟨hx_ HB⟩⟩
                       ·rw [if_neg c40] at H
                        exact absurd H (by simp)
                      ·rw [if_neg c39] at H
                       exact absurd H (by simp)
                     ·rw [if_neg c37] at H
                      exact absurd H (by simp)
                    ·rw [if_neg c36] at H
                     exact absurd H (by simp)
              ·rw [if_neg c28] at H
               exact absurd H (by simp)
             ·rw [if_neg c27] at H
              exact absurd H (by simp)
            ·replace c26 := Bool.eq_false_iff.mpr c26
             subst c26
             have H1 : (ferrulelaw07_BallotOne.l3 kj23 l0_2 t119 x10_3 0 l0_0 l0_1) = some r := by rw [if_neg (show ¬ (false = true) by decide)] at H; exact H
             clear H
             have H := H1
             clear H1
             have H' := am_ H
             clear H
             go_wp2
             go_loopg [18] kj23 (fun kq v18 w' => ∃ (x18_5 : Int), v18 = .int .i64 x18_5 ∧ Aside0 (ferrulelaw07_BallotOne.l3 kq l0_2 t119 x10_3 x18_5 l0_0 l0_1 = some r) ∧ Aside0 (kq ≤ kj23) ∧ Aside0 (Kd.S (Kd.slice 22 (Kd.int .u64)) 33 w' w.heap.size (fun _ => True) u10 x10_3) ∧ Aside0 (w'.heap[gb117]? = some (.cells #[(.slice A0_0 l0_0.length c0_0), (.slice A0_1 l0_1.length c0_1), (.slice A0_2 l0_2.length c0_2), (.slice A0_3 l0_3.length c0_3), .int .u64 a0_4] 38 (0, 0))) ∧ Aside0 (w'.heap[gb118]? = some (.cells #[(.slice A0_0 l0_0.length c0_0), (.slice A0_1 l0_1.length c0_1)] 35 (0, 0))) ∧ Aside0 (Below w.heap.size w w'))
             case atStart => exact ⟨(0), (by first | rfl | (simp; done) | (simp [*]; done)), H', ⟨Nat.le_refl _⟩, ⟨by (with_reducible repeat (first | apply Kd.S_alloc | apply Kd.S_drewN | apply Kd.S_drew)); exact HO_10.out⟩, ⟨bx_ BK117⟩, ⟨bx_ BK118⟩, ⟨hx_ HB⟩⟩
             case round =>
              clear H'
              try clear c1
              try clear p1
              try clear q1
              try clear hx1
              try clear hf1
              try clear c2
              try clear p2
              try clear c3
              try clear c4
              try clear p4
              try clear q4
              try clear hx4
              try clear hf4
              try clear p6
              try clear c9
              try clear c10
              try clear hx10
              try clear hf10
              try clear c11
              try clear hx11
              try clear hf11
              try clear p12
              try clear q12
              try clear hx12
              try clear p13
              try clear q13
              try clear hx13
              try clear p14
              try clear q14
              try clear hx14
              try clear c26
              try clear c27
              try clear c28
              try clear c36
              try clear c37
              try clear c39
              try clear c40
              try clear c42
              try clear p42
              try clear q42
              try clear hx42
              try clear hf42
              try clear c43
              try clear q44
              try clear p64
              try clear c104
              try clear hx104
              try clear hf104
              try clear c116
              try clear c117
              try clear c119
              try clear hx119
              try clear hf119
              try clear hcz103_0
              try clear hcz103_1
              try clear hcz103_2
              try clear hcz103_3
              try clear hcz103_4
              try clear hcz118_0
              try clear hcz118_1
              try clear hcz118_2
              try clear hcz118_3
              try clear hcz118_4
              try clear hfz103_0
              try clear hfz103_1
              try clear hfz103_2
              try clear hfz103_3
              try clear hfz103_4
              try clear hfz118_0
              try clear hfz118_1
              try clear hfz118_2
              try clear hfz118_3
              try clear hfz118_4
              try clear hx104_0
              try clear hx104_1
              try clear hx104_2
              try clear hx104_3
              try clear hx104_4
              try clear hx119_0
              try clear hx119_1
              try clear hx119_2
              try clear hx119_3
              try clear hx119_4
              try clear hx129_0
              try clear hx129_1
              try clear hx129_2
              try clear hx129_3
              try clear hx129_4
              try clear hx130_0
              try clear hx130_1
              try clear hx130_2
              try clear hx130_3
              try clear hx130_4
              try clear hx139_0
              try clear hx139_1
              try clear hx139_2
              try clear hx139_3
              try clear hx139_4
              try clear hx140_0
              try clear hx140_1
              try clear hx140_2
              try clear hx140_3
              try clear hx140_4
              try clear hx42_0
              try clear hx42_1
              try clear hx42_2
              try clear hx42_3
              try clear hx42_4
              try clear p129
              try clear p130
              try clear p139
              try clear p140
              try clear p42
              try clear q129
              try clear q130
              try clear q139
              try clear q140
              try clear q42
              obtain ⟨x18_5, rfl, HA, HK5, HO_10, BK117, BK118, HB⟩ := hrel
              cases gk with
              | zero => exact absurd HA.out (by simp [ferrulelaw07_BallotOne.l3])
              | succ k5 =>
               have H := HA.out
               clear HA
               simp only [ferrulelaw07_BallotOne.l3] at H
               by_cases c121 : x18_5 < (l0_2.length : Int)
               ·rw [if_pos c121] at H
                have c121b0 : decide (x18_5 < (l0_2.length : Int)) = true := decide_eq_true c121
                clear c121
                have H' := am_ H
                clear H
                go_wp2
                go_loopg [19] k5 (fun kq v19 w' => ∃ (x19_6 : Int), v19 = .int .i64 x19_6 ∧ Aside0 (ferrulelaw07_BallotOne.l4 kq l0_2 t119 x10_3 x18_5 x19_6 l0_0 l0_1 = some r) ∧ Aside0 (kq ≤ k5) ∧ Aside0 (Kd.S (Kd.slice 22 (Kd.int .u64)) 33 w' w.heap.size (fun _ => True) u10 x10_3) ∧ Aside0 (w'.heap[gb117]? = some (.cells #[(.slice A0_0 l0_0.length c0_0), (.slice A0_1 l0_1.length c0_1), (.slice A0_2 l0_2.length c0_2), (.slice A0_3 l0_3.length c0_3), .int .u64 a0_4] 38 (0, 0))) ∧ Aside0 (w'.heap[gb118]? = some (.cells #[(.slice A0_0 l0_0.length c0_0), (.slice A0_1 l0_1.length c0_1)] 35 (0, 0))) ∧ Aside0 (Below w.heap.size w w'))
                case atStart => exact ⟨(0), (by first | rfl | (simp; done) | (simp [*]; done)), H', ⟨Nat.le_refl _⟩, ⟨by (with_reducible repeat (first | apply Kd.S_alloc | apply Kd.S_drewN | apply Kd.S_drew)); exact HO_10.out⟩, ⟨bx_ BK117⟩, ⟨bx_ BK118⟩, ⟨hx_ HB⟩⟩
                case round =>
                 clear H'
                 try clear c1
                 try clear p1
                 try clear q1
                 try clear hx1
                 try clear hf1
                 try clear c2
                 try clear p2
                 try clear c3
                 try clear c4
                 try clear p4
                 try clear q4
                 try clear hx4
                 try clear hf4
                 try clear p6
                 try clear c9
                 try clear c10
                 try clear hx10
                 try clear hf10
                 try clear c11
                 try clear hx11
                 try clear hf11
                 try clear c12
                 try clear p12
                 try clear q12
                 try clear hx12
                 try clear p13
                 try clear q13
                 try clear hx13
                 try clear p14
                 try clear q14
                 try clear hx14
                 try clear c26
                 try clear c27
                 try clear c28
                 try clear c36
                 try clear c37
                 try clear c39
                 try clear c40
                 try clear c42
                 try clear p42
                 try clear q42
                 try clear hx42
                 try clear hf42
                 try clear c43
                 try clear q44
                 try clear p64
                 try clear c104
                 try clear hx104
                 try clear hf104
                 try clear c116
                 try clear c117
                 try clear c119
                 try clear hx119
                 try clear hf119
                 try clear c121
                 try clear c121b0
                 try clear hcz103_0
                 try clear hcz103_1
                 try clear hcz103_2
                 try clear hcz103_3
                 try clear hcz103_4
                 try clear hcz118_0
                 try clear hcz118_1
                 try clear hcz118_2
                 try clear hcz118_3
                 try clear hcz118_4
                 try clear hfz103_0
                 try clear hfz103_1
                 try clear hfz103_2
                 try clear hfz103_3
                 try clear hfz103_4
                 try clear hfz118_0
                 try clear hfz118_1
                 try clear hfz118_2
                 try clear hfz118_3
                 try clear hfz118_4
                 try clear hx104_0
                 try clear hx104_1
                 try clear hx104_2
                 try clear hx104_3
                 try clear hx104_4
                 try clear hx119_0
                 try clear hx119_1
                 try clear hx119_2
                 try clear hx119_3
                 try clear hx119_4
                 try clear hx129_0
                 try clear hx129_1
                 try clear hx129_2
                 try clear hx129_3
                 try clear hx129_4
                 try clear hx130_0
                 try clear hx130_1
                 try clear hx130_2
                 try clear hx130_3
                 try clear hx130_4
                 try clear hx139_0
                 try clear hx139_1
                 try clear hx139_2
                 try clear hx139_3
                 try clear hx139_4
                 try clear hx140_0
                 try clear hx140_1
                 try clear hx140_2
                 try clear hx140_3
                 try clear hx140_4
                 try clear hx42_0
                 try clear hx42_1
                 try clear hx42_2
                 try clear hx42_3
                 try clear hx42_4
                 try clear p1
                 try clear p12
                 try clear p129
                 try clear p13
                 try clear p130
                 try clear p139
                 try clear p14
                 try clear p140
                 try clear p2
                 try clear p4
                 try clear p42
                 try clear p6
                 try clear p64
                 try clear q1
                 try clear q12
                 try clear q129
                 try clear q13
                 try clear q130
                 try clear q139
                 try clear q14
                 try clear q140
                 try clear q4
                 try clear q42
                 try clear q44
                 obtain ⟨x19_6, rfl, HA, HK6, HO_10, BK117, BK118, HB⟩ := hrel
                 cases gk with
                 | zero => exact absurd HA.out (by simp [ferrulelaw07_BallotOne.l4])
                 | succ k6 =>
                  have H := HA.out
                  clear HA
                  simp only [ferrulelaw07_BallotOne.l4] at H
                  by_cases c122 : x19_6 < x18_5
                  ·rw [if_pos c122] at H
                   have c122b0 : decide (x19_6 < x18_5) = true := decide_eq_true c122
                   clear c122
                   by_cases c123 : 0 ≤ x18_5
                   ·rw [if_pos c123] at H
                    have c123b0 : decide (0 ≤ x18_5) = true := decide_eq_true c123
                    clear c123
                    by_cases c124 : x18_5 < (x10_3.length : Int)
                    ·rw [if_pos c124] at H
                     have c124b0 : decide (x18_5 < (x10_3.length : Int)) = true := decide_eq_true c124
                     clear c124
                     replace H := Option.bind_eq_some_iff.mp H
                     obtain ⟨t154, A1250, H⟩ := H
                     replace H : (if 0 ≤ x19_6 then (if x19_6 < (x10_3.length : Int) then ((ferruleref06_Most.f k6 l0_0 l0_1 (rd_L4 x10_3 x19_6)).bind fun t156 => (if t154 = true then (if t156 = true then (if x18_5 < (l0_2.length : Int) then (if x19_6 < (l0_2.length : Int) then (if ((rd_T26 l0_2 x18_5).f1) = ((rd_T26 l0_2 x19_6).f1) then (ferrulelaw07_BallotOne.l4 k6 l0_2 t119 x10_3 x18_5 (wrap64 (x19_6 + 1)) l0_0 l0_1) else (none)) else (none)) else (none)) else (ferrulelaw07_BallotOne.l4 k6 l0_2 t119 x10_3 x18_5 (wrap64 (x19_6 + 1)) l0_0 l0_1)) else (ferrulelaw07_BallotOne.l4 k6 l0_2 t119 x10_3 x18_5 (wrap64 (x19_6 + 1)) l0_0 l0_1))) else (none)) else (none)) = some r := H
                     have A125 := am_ A1250
                     clear A1250
                     by_cases c126 : 0 ≤ x19_6
                     ·rw [if_pos c126] at H
                      have c126b0 : decide (0 ≤ x19_6) = true := decide_eq_true c126
                      clear c126
                      by_cases c127 : x19_6 < (x10_3.length : Int)
                      ·rw [if_pos c127] at H
                       have c127b0 : decide (x19_6 < (x10_3.length : Int)) = true := decide_eq_true c127
                       clear c127
                       replace H := Option.bind_eq_some_iff.mp H
                       obtain ⟨t156, A1280, H⟩ := H
                       replace H : (if t154 = true then (if t156 = true then (if x18_5 < (l0_2.length : Int) then (if x19_6 < (l0_2.length : Int) then (if ((rd_T26 l0_2 x18_5).f1) = ((rd_T26 l0_2 x19_6).f1) then (ferrulelaw07_BallotOne.l4 k6 l0_2 t119 x10_3 x18_5 (wrap64 (x19_6 + 1)) l0_0 l0_1) else (none)) else (none)) else (none)) else (ferrulelaw07_BallotOne.l4 k6 l0_2 t119 x10_3 x18_5 (wrap64 (x19_6 + 1)) l0_0 l0_1)) else (ferrulelaw07_BallotOne.l4 k6 l0_2 t119 x10_3 x18_5 (wrap64 (x19_6 + 1)) l0_0 l0_1)) = some r := H
                       have A128 := am_ A1280
                       clear A1280
                       by_cases c129 : t154 = true
                       ·subst c129
                        have H1 : (if t156 = true then (if x18_5 < (l0_2.length : Int) then (if x19_6 < (l0_2.length : Int) then (if ((rd_T26 l0_2 x18_5).f1) = ((rd_T26 l0_2 x19_6).f1) then (ferrulelaw07_BallotOne.l4 k6 l0_2 t119 x10_3 x18_5 (wrap64 (x19_6 + 1)) l0_0 l0_1) else (none)) else (none)) else (none)) else (ferrulelaw07_BallotOne.l4 k6 l0_2 t119 x10_3 x18_5 (wrap64 (x19_6 + 1)) l0_0 l0_1)) = some r := by rw [if_pos rfl] at H; exact H
                        clear H
                        have H := H1
                        clear H1
                        by_cases c130 : t156 = true
                        ·subst c130
                         have H1 : (if x18_5 < (l0_2.length : Int) then (if x19_6 < (l0_2.length : Int) then (if ((rd_T26 l0_2 x18_5).f1) = ((rd_T26 l0_2 x19_6).f1) then (ferrulelaw07_BallotOne.l4 k6 l0_2 t119 x10_3 x18_5 (wrap64 (x19_6 + 1)) l0_0 l0_1) else (none)) else (none)) else (none)) = some r := by rw [if_pos rfl] at H; exact H
                         clear H
                         have H := H1
                         clear H1
                         by_cases c131 : x18_5 < (l0_2.length : Int)
                         ·rw [if_pos c131] at H
                          have c131b0 : decide (x18_5 < (l0_2.length : Int)) = true := decide_eq_true c131
                          clear c131
                          by_cases c132 : x19_6 < (l0_2.length : Int)
                          ·rw [if_pos c132] at H
                           have c132b0 : decide (x19_6 < (l0_2.length : Int)) = true := decide_eq_true c132
                           clear c132
                           by_cases c133 : ((rd_T26 l0_2 x18_5).f1) = ((rd_T26 l0_2 x19_6).f1)
                           ·rw [if_pos c133] at H
                            have c133b0 : (((rd_T26 l0_2 x18_5).f1) == ((rd_T26 l0_2 x19_6).f1)) = true := beq_iff_eq.mpr c133
                            have c133b1 : (((rd_T26 l0_2 x18_5).f1) != ((rd_T26 l0_2 x19_6).f1)) = false := bne_eq_false_iff_eq.mpr c133
                            clear c133
                            have H' := am_ H
                            clear H
                            try go_wp2
                            have n0_ := am_ (Kd.S_drew HO_10.out)
                            have n1_ := am_ (blk_drew BK117.out)
                            have n2_ := am_ (blk_drew BK118.out)
                            have n3_ := am_ (below_drew1 HB.out)
                            clear HO_10
                            clear BK117
                            clear BK118
                            clear HB
                            have HO_10 := n0_
                            have BK117 := n1_
                            have BK118 := n2_
                            have HB := n3_
                            clear n0_ n1_ n2_ n3_
                            obtain ⟨Ao135, co135, eo135⟩ := Kd.S_slice HO_10.out
                            (first | subst eo135 | (injection eo135 with f1_ f2_ f3_; have f4_ := f1_.symm; have f5_ := f3_.symm; clear f1_ f2_ f3_; subst f4_; subst f5_))
                            have p153 : 0 ≤ (x18_5 : Int) := of_decide_eq_true (by first | (with_reducible assumption) | assumption)
                            have q153 : x18_5 < (x10_3.length : Int) := of_decide_eq_true (by first | (with_reducible assumption) | assumption)
                            obtain ⟨ad153, A153_0, c153_0, e153, hx153_0, hl153_0, hi153_0⟩ := at_L4 (Kd.S_reads' HO_10.out).2.2 x18_5 p153 q153
                            cases e153
                            obtain ⟨ce153, hce153, hMe153, hcc153⟩ := Kd.S_get HO_10.out [] x18_5 p153 (by first | exact q153 | exact of_decide_eq_true (by first | (with_reducible assumption) | assumption) | (have e_ := (Kd.S_reads' HO_10.out).1; omega))
                            obtain ⟨ve153_0, rfl, ge153_0⟩ := hMe153
                            have hv153_0 := hcc153 0 _ rfl
                            rw [Nat.add_zero, show ((Kd.slice 22 (Kd.int .u64))).sz = 1 from rfl, Nat.mul_one] at hv153_0
                            replace hv153_0 := Option.some.inj (hv153_0.symm.trans hx153_0)
                            rw [hv153_0] at ge153_0
                            have HL153_0 := am_ (show Kd.R (Kd.int .u64) 22 _ _ _ _ (rd_L4 x10_3 x18_5) from ge153_0)
                            clear hv153_0 ge153_0
                            clear hcc153 hce153
                            have HR153_0 := am_ hi153_0
                            have HC153_0 := am_ hl153_0
                            clear hi153_0 hl153_0
                            replace p153 := eq_true p153
                            replace q153 := eq_true q153
                            refine start_ (n := 7) (S := fun w' => w'.cell? ⟨gb118, 0, none⟩ = some (.slice A0_0 l0_0.length c0_0) ∧ w'.cell? ⟨gb118, 1, none⟩ = some (.slice A0_1 l0_1.length c0_1) ∧ w'.cell? (ad153.add (x18_5).toNat) = some (.slice A153_0 (rd_L4 x10_3 x18_5).length c153_0)) (ds := []) bN40_ (by kernel_rfl) rfl rfl ⟨(blk_cell BK118.out 0).trans rfl, (blk_cell BK118.out 1).trans rfl, hx153_0⟩ (fun hHeld => ?_)
                            generalize wr.drew = w134 at HO_10 BK117 BK118 HB HL153_0 HR153_0 hx153_0 hHeld ⊢
                            refine pure_ (i := 1) (N := some 150) (v := ?_) (a' := ?_) bN41_ rfl rfl (by kernel_rfl) (fun _ _ _ h => h) (Or.inl ⟨by rfl, ?_⟩) ?_ ?_; rotate_left; (intro w'; go_simp; with_reducible rfl); rotate_left; (simp only [Act.put, List.setIfInBounds_toArray, List.set_cons_zero, List.set_cons_succ, i64_w, i32_w]; rfl)
                            refine pure_ (i := 2) (N := some 151) (v := ?_) (a' := ?_) bN42_ rfl rfl (by kernel_rfl) (fun _ _ _ h => h) (Or.inl ⟨by rfl, ?_⟩) ?_ ?_; rotate_left; (intro w'; go_simp; with_reducible rfl); rotate_left; (simp only [Act.put, List.setIfInBounds_toArray, List.set_cons_zero, List.set_cons_succ, i64_w, i32_w]; rfl)
                            refine pure_ (i := 3) (N := some 152) (v := ?_) (a' := ?_) bN43_ rfl rfl (by kernel_rfl) (fun _ _ _ h => h) (Or.inl ⟨by rfl, ?_⟩) ?_ ?_; rotate_left; (intro w'; go_simp; with_reducible rfl); rotate_left; (simp only [Act.put, List.setIfInBounds_toArray, List.set_cons_zero, List.set_cons_succ, i64_w, i32_w]; rfl)
                            refine take_ (i := 0) (N := some 149) (v := ?_) (a' := ?_) bN44_ rfl rfl (by kernel_rfl) (fun _ _ _ h => h) (Or.inl ⟨by rfl, ?_⟩) hHeld ?_ ?_; rotate_left; (rintro w' ⟨s0, s1, s2⟩; go_simp; with_reducible rfl); rotate_left; (simp only [Act.put, List.setIfInBounds_toArray, List.set_cons_zero, List.set_cons_succ, i64_w, i32_w]; rfl)
                            refine take_ (i := 4) (N := some 153) (v := ?_) (a' := ?_) bN45_ rfl rfl (by kernel_rfl) (fun _ _ _ h => h) (Or.inl ⟨by rfl, ?_⟩) hHeld ?_ ?_; rotate_left; (rintro w' ⟨s0, s1, s2⟩; go_simp; with_reducible rfl); rotate_left; (simp only [Act.put, List.setIfInBounds_toArray, List.set_cons_zero, List.set_cons_succ, i64_w, i32_w]; rfl)
                            refine one_ (i := 5) (N := some 154) bN46_ rfl rfl (by kernel_rfl) (by decide) (fun K hK => ?_)
                            refine goes_ Try.func12 (by kernel_rfl) rfl #[.agg #[.slice A0_0 l0_0.length c0_0, .slice A0_1 l0_1.length c0_1], .slice A153_0 (rd_L4 x10_3 x18_5).length c153_0] (by rfl) rfl rfl (by (try simp only [List.map_toArray, List.map_cons, List.map_nil]); first | done | rfl | (simp only [List.length_drop, List.length_take]; rfl)) ?_
                            with_reducible refine (ferruleref06_Most.calls k6 _ _ l0_0 _ _ l0_1 _ _ (rd_L4 x10_3 x18_5) true _ ?side1 ?side2 ?side3 ?side4 ?side5 ?side6 A125.out).mono ?_
                            (case side1 => repeat (first | exact (Kd.C_below HR0_0.out HB.out) | (with_reducible refine Kd.C_alloc ?_ _) | (with_reducible refine Kd.C_drewN ?_ _) | (with_reducible refine Kd.C_drew ?_)))
                            (case side2 => exact HC0_0.out)
                            (case side3 => repeat (first | exact (Kd.C_below HR0_1.out HB.out) | (with_reducible refine Kd.C_alloc ?_ _) | (with_reducible refine Kd.C_drewN ?_ _) | (with_reducible refine Kd.C_drew ?_)))
                            (case side4 => exact HC0_1.out)
                            (case side5 => repeat (first | exact (by repeat (first | (with_reducible exact HR153_0.out) | (with_reducible refine Kd.C_alloc ?_ _) | (with_reducible refine Kd.C_drewN ?_ _) | (with_reducible refine Kd.C_drew ?_) | exact HR153_0.out)) | (with_reducible refine Kd.C_alloc ?_ _) | (with_reducible refine Kd.C_drewN ?_ _) | (with_reducible refine Kd.C_drew ?_)))
                            (case side6 => exact HC153_0.out)
                            rintro e w136 ⟨rfl, hb⟩
                            have HS2_ := (hb.cell (World.block_lt_of_cell? _ _ (hHeld.2.2))).trans (hHeld.2.2)
                            refine ⟨_, rfl, ?_⟩
                            have n0_ := am_ (Kd.S_below (by (with_reducible repeat (first | apply Kd.S_alloc | apply Kd.S_drewN | apply Kd.S_drew)); exact HO_10.out) hb)
                            have n1_ := am_ (Kd.R_below (rx_ HL153_0) hb)
                            have n2_ := am_ (blk_below (g := gb117) (o := .cells #[.slice A0_0 l0_0.length c0_0, .slice A0_1 l0_1.length c0_1, .slice A0_2 l0_2.length c0_2, .slice A0_3 l0_3.length c0_3, .int .u64 a0_4] 38 (0, 0)) (bx_ BK117) hb)
                            have n3_ := am_ (blk_below (g := gb118) (o := .cells #[.slice A0_0 l0_0.length c0_0, .slice A0_1 l0_1.length c0_1] 35 (0, 0)) (bx_ BK118) hb)
                            have n4_ := am_ (Kd.C_below (by repeat (first | (with_reducible exact HR153_0.out) | (with_reducible refine Kd.C_alloc ?_ _) | (with_reducible refine Kd.C_drewN ?_ _) | (with_reducible refine Kd.C_drew ?_) | exact HR153_0.out)) hb)
                            have n5_ := am_ (below_step (hx_ HB) hb)
                            clear HO_10
                            clear HL153_0
                            clear BK117
                            clear BK118
                            clear HR153_0
                            clear HB
                            have HO_10 := n0_
                            have HL153_0 := n1_
                            have BK117 := n2_
                            have BK118 := n3_
                            have HR153_0 := n4_
                            have HB := n5_
                            clear n0_ n1_ n2_ n3_ n4_ n5_
                            (try clear hb)
                            (try clear hb2)
                            (try clear hk)
                            (try clear hi)
                            refine hK.out _ _ ⟨(blk_cell BK118.out 0).trans rfl, (blk_cell BK118.out 1).trans rfl, HS2_⟩ (fun hHeld => ?_)
                            clear hK K
                            refine norm_ (a' := ?_) ?_ ?_
                            rotate_left
                            ·show Act.put _ (some 154) _ = _
                             simp only [Act.put, List.setIfInBounds_toArray, List.set_cons_zero, List.set_cons_succ, i64_w, i32_w]
                             rfl
                            refine pure_ (i := 6) (N := some 20) (v := ?_) (a' := ?_) bN47_ rfl rfl (by kernel_rfl) (fun _ _ _ h => h) (Or.inl ⟨by rfl, ?_⟩) ?_ ?_; rotate_left; (intro w'; go_simp; with_reducible rfl); rotate_left; (simp only [Act.put, List.setIfInBounds_toArray, List.set_cons_zero, List.set_cons_succ, i64_w, i32_w]; rfl)
                            refine done_ (by kernel_rfl) ?_
                            try go_wp2
                            have n0_ := am_ (Kd.S_drew HO_10.out)
                            have n1_ := am_ (Kd.R_drew HL153_0.out)
                            have n2_ := am_ (blk_drew BK117.out)
                            have n3_ := am_ (blk_drew BK118.out)
                            have n4_ := am_ (Kd.C_drew HR153_0.out)
                            have n5_ := am_ (below_drew1 HB.out)
                            clear HO_10
                            clear HL153_0
                            clear BK117
                            clear BK118
                            clear HR153_0
                            clear HB
                            have HO_10 := n0_
                            have HL153_0 := n1_
                            have BK117 := n2_
                            have BK118 := n3_
                            have HR153_0 := n4_
                            have HB := n5_
                            clear n0_ n1_ n2_ n3_ n4_ n5_
                            have p155 : 0 ≤ (x19_6 : Int) := of_decide_eq_true (by first | (with_reducible assumption) | assumption)
                            have q155 : x19_6 < (x10_3.length : Int) := of_decide_eq_true (by first | (with_reducible assumption) | assumption)
                            obtain ⟨ad155, A155_0, c155_0, e155, hx155_0, hl155_0, hi155_0⟩ := at_L4 (Kd.S_reads' HO_10.out).2.2 x19_6 p155 q155
                            obtain rfl : ad153 = ad155 := (by injection e155)
                            obtain ⟨ce155, hce155, hMe155, hcc155⟩ := Kd.S_get HO_10.out [] x19_6 p155 (by first | exact q155 | exact of_decide_eq_true (by first | (with_reducible assumption) | assumption) | (have e_ := (Kd.S_reads' HO_10.out).1; omega))
                            obtain ⟨ve155_0, rfl, ge155_0⟩ := hMe155
                            have hv155_0 := hcc155 0 _ rfl
                            rw [Nat.add_zero, show ((Kd.slice 22 (Kd.int .u64))).sz = 1 from rfl, Nat.mul_one] at hv155_0
                            replace hv155_0 := Option.some.inj (hv155_0.symm.trans hx155_0)
                            rw [hv155_0] at ge155_0
                            have HL155_0 := am_ (show Kd.R (Kd.int .u64) 22 _ _ _ _ (rd_L4 x10_3 x19_6) from ge155_0)
                            clear hv155_0 ge155_0
                            clear hcc155 hce155
                            have HR155_0 := am_ hi155_0
                            have HC155_0 := am_ hl155_0
                            clear hi155_0 hl155_0
                            replace p155 := eq_true p155
                            replace q155 := eq_true q155
                            refine start_ (n := 7) (S := fun w' => w'.cell? ⟨gb118, 0, none⟩ = some (.slice A0_0 l0_0.length c0_0) ∧ w'.cell? ⟨gb118, 1, none⟩ = some (.slice A0_1 l0_1.length c0_1) ∧ w'.cell? (ad153.add (x19_6).toNat) = some (.slice A155_0 (rd_L4 x10_3 x19_6).length c155_0)) (ds := []) bN40_ (by kernel_rfl) rfl rfl ⟨(blk_cell BK118.out 0).trans rfl, (blk_cell BK118.out 1).trans rfl, hx155_0⟩ (fun hHeld => ?_)
                            generalize w136.drew = w137 at HO_10 HL153_0 BK117 BK118 HR153_0 HB HL155_0 HR155_0 hx155_0 hHeld ⊢
                            refine pure_ (i := 1) (N := some 156) (v := ?_) (a' := ?_) bN41_ rfl rfl (by kernel_rfl) (fun _ _ _ h => h) (Or.inl ⟨by rfl, ?_⟩) ?_ ?_; rotate_left; (intro w'; go_simp; with_reducible rfl); rotate_left; (simp only [Act.put, List.setIfInBounds_toArray, List.set_cons_zero, List.set_cons_succ, i64_w, i32_w]; rfl)
                            refine pure_ (i := 2) (N := some 157) (v := ?_) (a' := ?_) bN42_ rfl rfl (by kernel_rfl) (fun _ _ _ h => h) (Or.inl ⟨by rfl, ?_⟩) ?_ ?_; rotate_left; (intro w'; go_simp; with_reducible rfl); rotate_left; (simp only [Act.put, List.setIfInBounds_toArray, List.set_cons_zero, List.set_cons_succ, i64_w, i32_w]; rfl)
                            refine pure_ (i := 3) (N := some 158) (v := ?_) (a' := ?_) bN43_ rfl rfl (by kernel_rfl) (fun _ _ _ h => h) (Or.inl ⟨by rfl, ?_⟩) ?_ ?_; rotate_left; (intro w'; go_simp; with_reducible rfl); rotate_left; (simp only [Act.put, List.setIfInBounds_toArray, List.set_cons_zero, List.set_cons_succ, i64_w, i32_w]; rfl)
                            refine take_ (i := 0) (N := some 155) (v := ?_) (a' := ?_) bN44_ rfl rfl (by kernel_rfl) (fun _ _ _ h => h) (Or.inl ⟨by rfl, ?_⟩) hHeld ?_ ?_; rotate_left; (rintro w' ⟨s0, s1, s2⟩; go_simp; with_reducible rfl); rotate_left; (simp only [Act.put, List.setIfInBounds_toArray, List.set_cons_zero, List.set_cons_succ, i64_w, i32_w]; rfl)
                            refine take_ (i := 4) (N := some 159) (v := ?_) (a' := ?_) bN45_ rfl rfl (by kernel_rfl) (fun _ _ _ h => h) (Or.inl ⟨by rfl, ?_⟩) hHeld ?_ ?_; rotate_left; (rintro w' ⟨s0, s1, s2⟩; go_simp; with_reducible rfl); rotate_left; (simp only [Act.put, List.setIfInBounds_toArray, List.set_cons_zero, List.set_cons_succ, i64_w, i32_w]; rfl)
                            refine one_ (i := 5) (N := some 160) bN46_ rfl rfl (by kernel_rfl) (by decide) (fun K hK => ?_)
                            refine goes_ Try.func12 (by kernel_rfl) rfl #[.agg #[.slice A0_0 l0_0.length c0_0, .slice A0_1 l0_1.length c0_1], .slice A155_0 (rd_L4 x10_3 x19_6).length c155_0] (by rfl) rfl rfl (by (try simp only [List.map_toArray, List.map_cons, List.map_nil]); first | done | rfl | (simp only [List.length_drop, List.length_take]; rfl)) ?_
                            with_reducible refine (ferruleref06_Most.calls k6 _ _ l0_0 _ _ l0_1 _ _ (rd_L4 x10_3 x19_6) true _ ?side1 ?side2 ?side3 ?side4 ?side5 ?side6 A128.out).mono ?_
                            (case side1 => repeat (first | exact (Kd.C_below HR0_0.out HB.out) | (with_reducible refine Kd.C_alloc ?_ _) | (with_reducible refine Kd.C_drewN ?_ _) | (with_reducible refine Kd.C_drew ?_)))
                            (case side2 => exact HC0_0.out)
                            (case side3 => repeat (first | exact (Kd.C_below HR0_1.out HB.out) | (with_reducible refine Kd.C_alloc ?_ _) | (with_reducible refine Kd.C_drewN ?_ _) | (with_reducible refine Kd.C_drew ?_)))
                            (case side4 => exact HC0_1.out)
                            (case side5 => repeat (first | exact (by repeat (first | (with_reducible exact HR155_0.out) | (with_reducible refine Kd.C_alloc ?_ _) | (with_reducible refine Kd.C_drewN ?_ _) | (with_reducible refine Kd.C_drew ?_) | exact HR155_0.out)) | (with_reducible refine Kd.C_alloc ?_ _) | (with_reducible refine Kd.C_drewN ?_ _) | (with_reducible refine Kd.C_drew ?_)))
                            (case side6 => exact HC155_0.out)
                            rintro e w138 ⟨rfl, hb⟩
                            have HS2_ := (hb.cell (World.block_lt_of_cell? _ _ (hHeld.2.2))).trans (hHeld.2.2)
                            refine ⟨_, rfl, ?_⟩
                            have n0_ := am_ (Kd.S_below (by (with_reducible repeat (first | apply Kd.S_alloc | apply Kd.S_drewN | apply Kd.S_drew)); exact HO_10.out) hb)
                            have n1_ := am_ (Kd.R_below (rx_ HL153_0) hb)
                            have n2_ := am_ (Kd.R_below (rx_ HL155_0) hb)
                            have n3_ := am_ (blk_below (g := gb117) (o := .cells #[.slice A0_0 l0_0.length c0_0, .slice A0_1 l0_1.length c0_1, .slice A0_2 l0_2.length c0_2, .slice A0_3 l0_3.length c0_3, .int .u64 a0_4] 38 (0, 0)) (bx_ BK117) hb)
                            have n4_ := am_ (blk_below (g := gb118) (o := .cells #[.slice A0_0 l0_0.length c0_0, .slice A0_1 l0_1.length c0_1] 35 (0, 0)) (bx_ BK118) hb)
                            have n5_ := am_ (Kd.C_below (by repeat (first | (with_reducible exact HR153_0.out) | (with_reducible refine Kd.C_alloc ?_ _) | (with_reducible refine Kd.C_drewN ?_ _) | (with_reducible refine Kd.C_drew ?_) | exact HR153_0.out)) hb)
                            have n6_ := am_ (Kd.C_below (by repeat (first | (with_reducible exact HR155_0.out) | (with_reducible refine Kd.C_alloc ?_ _) | (with_reducible refine Kd.C_drewN ?_ _) | (with_reducible refine Kd.C_drew ?_) | exact HR155_0.out)) hb)
                            have n7_ := am_ (below_step (hx_ HB) hb)
                            clear HO_10
                            clear HL153_0
                            clear HL155_0
                            clear BK117
                            clear BK118
                            clear HR153_0
                            clear HR155_0
                            clear HB
                            have HO_10 := n0_
                            have HL153_0 := n1_
                            have HL155_0 := n2_
                            have BK117 := n3_
                            have BK118 := n4_
                            have HR153_0 := n5_
                            have HR155_0 := n6_
                            have HB := n7_
                            clear n0_ n1_ n2_ n3_ n4_ n5_ n6_ n7_
                            (try clear hb)
                            (try clear hb2)
                            (try clear hk)
                            (try clear hi)
                            refine hK.out _ _ ⟨(blk_cell BK118.out 0).trans rfl, (blk_cell BK118.out 1).trans rfl, HS2_⟩ (fun hHeld => ?_)
                            clear hK K
                            refine norm_ (a' := ?_) ?_ ?_
                            rotate_left
                            ·show Act.put _ (some 160) _ = _
                             simp only [Act.put, List.setIfInBounds_toArray, List.set_cons_zero, List.set_cons_succ, i64_w, i32_w]
                             rfl
                            refine pure_ (i := 6) (N := some 21) (v := ?_) (a' := ?_) bN47_ rfl rfl (by kernel_rfl) (fun _ _ _ h => h) (Or.inl ⟨by rfl, ?_⟩) ?_ ?_; rotate_left; (intro w'; go_simp; with_reducible rfl); rotate_left; (simp only [Act.put, List.setIfInBounds_toArray, List.set_cons_zero, List.set_cons_succ, i64_w, i32_w]; rfl)
                            refine done_ (by kernel_rfl) ?_
                            try go_wp2
                            have n0_ := am_ (Kd.S_drew HO_10.out)
                            have n1_ := am_ (Kd.R_drew HL153_0.out)
                            have n2_ := am_ (Kd.R_drew HL155_0.out)
                            have n3_ := am_ (blk_drew BK117.out)
                            have n4_ := am_ (blk_drew BK118.out)
                            have n5_ := am_ (Kd.C_drew HR153_0.out)
                            have n6_ := am_ (Kd.C_drew HR155_0.out)
                            have n7_ := am_ (below_drew1 HB.out)
                            clear HO_10
                            clear HL153_0
                            clear HL155_0
                            clear BK117
                            clear BK118
                            clear HR153_0
                            clear HR155_0
                            clear HB
                            have HO_10 := n0_
                            have HL153_0 := n1_
                            have HL155_0 := n2_
                            have BK117 := n3_
                            have BK118 := n4_
                            have HR153_0 := n5_
                            have HR155_0 := n6_
                            have HB := n7_
                            clear n0_ n1_ n2_ n3_ n4_ n5_ n6_ n7_
                            have p157 : 0 ≤ (x18_5 : Int) := of_decide_eq_true (by first | (with_reducible assumption) | assumption)
                            have q157 : x18_5 < (l0_2.length : Int) := of_decide_eq_true (by first | (with_reducible assumption) | assumption)
                            obtain ⟨ad157, e157, hx157_0, hx157_1, hx157_2, hx157_3, hx157_4⟩ := at_T26 HR0_2.out x18_5 p157 q157
                            have hw157_4 := hx157_4
                            have hw157_3 := hx157_3
                            have hw157_2 := hx157_2
                            have hw157_1 := hx157_1
                            have hw157_0 := hx157_0
                            cases e157
                            replace hx157_0 := (HB.out.cell (World.block_lt_of_cell? w _ hx157_0)).trans hx157_0
                            replace hx157_1 := (HB.out.cell (World.block_lt_of_cell? w _ hx157_1)).trans hx157_1
                            replace hx157_2 := (HB.out.cell (World.block_lt_of_cell? w _ hx157_2)).trans hx157_2
                            replace hx157_3 := (HB.out.cell (World.block_lt_of_cell? w _ hx157_3)).trans hx157_3
                            replace hx157_4 := (HB.out.cell (World.block_lt_of_cell? w _ hx157_4)).trans hx157_4
                            replace p157 := eq_true p157
                            replace q157 := eq_true q157
                            have p158 : 0 ≤ (x19_6 : Int) := of_decide_eq_true (by first | (with_reducible assumption) | assumption)
                            have q158 : x19_6 < (l0_2.length : Int) := of_decide_eq_true (by first | (with_reducible assumption) | assumption)
                            obtain ⟨ad158, e158, hx158_0, hx158_1, hx158_2, hx158_3, hx158_4⟩ := at_T26 HR0_2.out x19_6 p158 q158
                            have hw158_4 := hx158_4
                            have hw158_3 := hx158_3
                            have hw158_2 := hx158_2
                            have hw158_1 := hx158_1
                            have hw158_0 := hx158_0
                            obtain rfl : ad157 = ad158 := (by injection e158)
                            replace hx158_0 := (HB.out.cell (World.block_lt_of_cell? w _ hx158_0)).trans hx158_0
                            replace hx158_1 := (HB.out.cell (World.block_lt_of_cell? w _ hx158_1)).trans hx158_1
                            replace hx158_2 := (HB.out.cell (World.block_lt_of_cell? w _ hx158_2)).trans hx158_2
                            replace hx158_3 := (HB.out.cell (World.block_lt_of_cell? w _ hx158_3)).trans hx158_3
                            replace hx158_4 := (HB.out.cell (World.block_lt_of_cell? w _ hx158_4)).trans hx158_4
                            replace p158 := eq_true p158
                            replace q158 := eq_true q158
                            refine start_ (n := 17) (S := fun w' => w'.cell? (ad157.add ((x18_5).toNat * 5)) = some (.int .u64 ((rd_T26 l0_2 x18_5).f0)) ∧ w'.cell? ⟨(ad157.add ((x18_5).toNat * 5)).block, (ad157.add ((x18_5).toNat * 5)).off + 1, none⟩ = some (.int .u64 ((rd_T26 l0_2 x18_5).f1)) ∧ w'.cell? ⟨(ad157.add ((x18_5).toNat * 5)).block, (ad157.add ((x18_5).toNat * 5)).off + 2, none⟩ = some (.int .u64 ((rd_T26 l0_2 x18_5).f2)) ∧ w'.cell? ⟨(ad157.add ((x18_5).toNat * 5)).block, (ad157.add ((x18_5).toNat * 5)).off + 3, none⟩ = some (.int .u64 ((rd_T26 l0_2 x18_5).f3)) ∧ w'.cell? ⟨(ad157.add ((x18_5).toNat * 5)).block, (ad157.add ((x18_5).toNat * 5)).off + 4, none⟩ = some (.bool ((rd_T26 l0_2 x18_5).f4)) ∧ w'.cell? (ad157.add ((x19_6).toNat * 5)) = some (.int .u64 ((rd_T26 l0_2 x19_6).f0)) ∧ w'.cell? ⟨(ad157.add ((x19_6).toNat * 5)).block, (ad157.add ((x19_6).toNat * 5)).off + 1, none⟩ = some (.int .u64 ((rd_T26 l0_2 x19_6).f1)) ∧ w'.cell? ⟨(ad157.add ((x19_6).toNat * 5)).block, (ad157.add ((x19_6).toNat * 5)).off + 2, none⟩ = some (.int .u64 ((rd_T26 l0_2 x19_6).f2)) ∧ w'.cell? ⟨(ad157.add ((x19_6).toNat * 5)).block, (ad157.add ((x19_6).toNat * 5)).off + 3, none⟩ = some (.int .u64 ((rd_T26 l0_2 x19_6).f3)) ∧ w'.cell? ⟨(ad157.add ((x19_6).toNat * 5)).block, (ad157.add ((x19_6).toNat * 5)).off + 4, none⟩ = some (.bool ((rd_T26 l0_2 x19_6).f4))) (ds := []) bN20_ (by kernel_rfl) rfl rfl ⟨((HB.out.cell (World.block_lt_of_cell? w _ hw157_0)).trans hw157_0), ((HB.out.cell (World.block_lt_of_cell? w _ hw157_1)).trans hw157_1), ((HB.out.cell (World.block_lt_of_cell? w _ hw157_2)).trans hw157_2), ((HB.out.cell (World.block_lt_of_cell? w _ hw157_3)).trans hw157_3), ((HB.out.cell (World.block_lt_of_cell? w _ hw157_4)).trans hw157_4), ((HB.out.cell (World.block_lt_of_cell? w _ hw158_0)).trans hw158_0), ((HB.out.cell (World.block_lt_of_cell? w _ hw158_1)).trans hw158_1), ((HB.out.cell (World.block_lt_of_cell? w _ hw158_2)).trans hw158_2), ((HB.out.cell (World.block_lt_of_cell? w _ hw158_3)).trans hw158_3), ((HB.out.cell (World.block_lt_of_cell? w _ hw158_4)).trans hw158_4)⟩ (fun hHeld => ?_); refine with_tabW ferrulelaw07_BallotOne.tab37 ferrulelaw07_BallotOne.bits37 (fun HT_ HW_ => ?_)
                            generalize w138.drew = w139 at HO_10 HL153_0 HL155_0 BK117 BK118 HR153_0 HR155_0 HB hx157_0 hx157_1 hx157_2 hx157_3 hx157_4 hx158_0 hx158_1 hx158_2 hx158_3 hx158_4 hHeld ⊢
                            refine pure_ (i := 0) (N := some 161) (v := ?_) (a' := ?_) bN21_ rfl rfl (any_of HT_.out (by kernel_rfl)) (fun _ _ _ h => h) (Or.inl ⟨by rfl, ?_⟩) ?_ ?_; rotate_left; (intro w'; go_simp; with_reducible rfl); rotate_left; (simp only [Act.put, List.setIfInBounds_toArray, List.set_cons_zero, List.set_cons_succ, i64_w, i32_w]; rfl)
                            refine pure_ (i := 1) (N := some 162) (v := ?_) (a' := ?_) bN22_ rfl rfl (any_of HT_.out (by kernel_rfl)) (fun _ _ _ h => h) (Or.inl ⟨by rfl, ?_⟩) ?_ ?_; rotate_left; (intro w'; go_simp; with_reducible rfl); rotate_left; (simp only [Act.put, List.setIfInBounds_toArray, List.set_cons_zero, List.set_cons_succ, i64_w, i32_w]; rfl)
                            refine pure_ (i := 2) (N := some 163) (v := ?_) (a' := ?_) bN48_ rfl rfl (any_of HT_.out (by kernel_rfl)) (fun _ _ _ h => h) (Or.inl ⟨by rfl, ?_⟩) ?_ ?_; rotate_left; (intro w'; go_simp; with_reducible rfl); rotate_left; (simp only [Act.put, List.setIfInBounds_toArray, List.set_cons_zero, List.set_cons_succ, i64_w, i32_w]; rfl)
                            refine pure_ (i := 3) (N := some 164) (v := ?_) (a' := ?_) bN49_ rfl rfl (any_of HT_.out (by kernel_rfl)) (fun _ _ _ h => h) (Or.inl ⟨by rfl, ?_⟩) ?_ ?_; rotate_left; (intro w'; go_simp; with_reducible rfl); rotate_left; (simp only [Act.put, List.setIfInBounds_toArray, List.set_cons_zero, List.set_cons_succ, i64_w, i32_w]; rfl)
                            refine pure_ (i := 4) (N := some 165) (v := ?_) (a' := ?_) bN50_ rfl rfl (any_of HT_.out (by kernel_rfl)) (fun _ _ _ h => h) (Or.inl ⟨by rfl, ?_⟩) ?_ ?_; rotate_left; (intro w'; go_simp; with_reducible rfl); rotate_left; (simp only [Act.put, List.setIfInBounds_toArray, List.set_cons_zero, List.set_cons_succ, i64_w, i32_w]; rfl)
                            refine pure_ (i := 5) (N := some 166) (v := ?_) (a' := ?_) bN51_ rfl rfl (any_of HT_.out (by kernel_rfl)) (fun _ _ _ h => h) (Or.inl ⟨by rfl, ?_⟩) ?_ ?_; rotate_left; (intro w'; go_simp; with_reducible rfl); rotate_left; (simp only [Act.put, List.setIfInBounds_toArray, List.set_cons_zero, List.set_cons_succ, i64_w, i32_w]; rfl)
                            refine pure_ (i := 6) (N := some 167) (v := ?_) (a' := ?_) bN52_ rfl rfl (any_of HT_.out (by kernel_rfl)) (fun _ _ _ h => h) (Or.inl ⟨by rfl, ?_⟩) ?_ ?_; rotate_left; (intro w'; go_simp; with_reducible rfl); rotate_left; (simp only [Act.put, List.setIfInBounds_toArray, List.set_cons_zero, List.set_cons_succ, i64_w, i32_w]; rfl)
                            refine pure_ (i := 7) (N := some 168) (v := ?_) (a' := ?_) bN53_ rfl rfl (any_of HT_.out (by kernel_rfl)) (fun _ _ _ h => h) (Or.inl ⟨by rfl, ?_⟩) ?_ ?_; rotate_left; (intro w'; go_simp; with_reducible rfl); rotate_left; (simp only [Act.put, List.setIfInBounds_toArray, List.set_cons_zero, List.set_cons_succ, i64_w, i32_w]; rfl)
                            refine pure_ (i := 8) (N := some 169) (v := ?_) (a' := ?_) bN54_ rfl rfl (any_of HT_.out (by kernel_rfl)) (fun _ _ _ h => h) (Or.inl ⟨by rfl, ?_⟩) ?_ ?_; rotate_left; (intro w'; go_simp; with_reducible rfl); rotate_left; (simp only [Act.put, List.setIfInBounds_toArray, List.set_cons_zero, List.set_cons_succ, i64_w, i32_w]; rfl)
                            refine pure_ (i := 10) (N := some 171) (v := ?_) (a' := ?_) bN55_ rfl rfl (any_of HT_.out (by kernel_rfl)) (fun _ _ _ h => h) (Or.inl ⟨by rfl, ?_⟩) ?_ ?_; rotate_left; (intro w'; go_simp; with_reducible rfl); rotate_left; (simp only [Act.put, List.setIfInBounds_toArray, List.set_cons_zero, List.set_cons_succ, i64_w, i32_w]; rfl)
                            refine pure_ (i := 11) (N := some 172) (v := ?_) (a' := ?_) bN56_ rfl rfl (any_of HT_.out (by kernel_rfl)) (fun _ _ _ h => h) (Or.inl ⟨by rfl, ?_⟩) ?_ ?_; rotate_left; (intro w'; go_simp; with_reducible rfl); rotate_left; (simp only [Act.put, List.setIfInBounds_toArray, List.set_cons_zero, List.set_cons_succ, i64_w, i32_w]; rfl)
                            refine pure_ (i := 12) (N := some 173) (v := ?_) (a' := ?_) bN57_ rfl rfl (any_of HT_.out (by kernel_rfl)) (fun _ _ _ h => h) (Or.inl ⟨by rfl, ?_⟩) ?_ ?_; rotate_left; (intro w'; go_simp; with_reducible rfl); rotate_left; (simp only [Act.put, List.setIfInBounds_toArray, List.set_cons_zero, List.set_cons_succ, i64_w, i32_w]; rfl)
                            refine pure_ (i := 13) (N := some 174) (v := ?_) (a' := ?_) bN58_ rfl rfl (any_of HT_.out (by kernel_rfl)) (fun _ _ _ h => h) (Or.inl ⟨by rfl, ?_⟩) ?_ ?_; rotate_left; (intro w'; go_simp; with_reducible rfl); rotate_left; (simp only [Act.put, List.setIfInBounds_toArray, List.set_cons_zero, List.set_cons_succ, i64_w, i32_w]; rfl)
                            refine take_ (i := 9) (N := some 170) (v := ?_) (a' := ?_) bN32_ rfl rfl (take_ofW HT_.out HW_.out (by kernel_rfl)) (fun _ _ _ h => h) (Or.inl ⟨by rfl, ?_⟩) hHeld ?_ ?_; rotate_left; (rintro w' ⟨s0, s1, s2, s3, s4, s5, s6, s7, s8, s9⟩; go_simp; with_reducible rfl); rotate_left; (simp only [Act.put, List.setIfInBounds_toArray, List.set_cons_zero, List.set_cons_succ, i64_w, i32_w]; rfl)
                            refine take_ (i := 14) (N := some 175) (v := ?_) (a' := ?_) bN37_ rfl rfl (take_ofW HT_.out HW_.out (by kernel_rfl)) (fun _ _ _ h => h) (Or.inl ⟨by rfl, ?_⟩) hHeld ?_ ?_; rotate_left; (rintro w' ⟨s0, s1, s2, s3, s4, s5, s6, s7, s8, s9⟩; go_simp; with_reducible rfl); rotate_left; (simp only [Act.put, List.setIfInBounds_toArray, List.set_cons_zero, List.set_cons_succ, i64_w, i32_w]; rfl)
                            refine pure_ (i := 15) (N := some 176) (v := ?_) (a' := ?_) bN38_ rfl rfl (any_of HT_.out (by kernel_rfl)) (fun _ _ _ h => h) (Or.inl ⟨by rfl, ?_⟩) ?_ ?_; rotate_left; (intro w'; go_simp; with_reducible rfl); rotate_left; (simp only [Act.put, List.setIfInBounds_toArray, List.set_cons_zero, List.set_cons_succ, i64_w, i32_w]; rfl)
                            refine pure_ (i := 16) (N := some 177) (v := ?_) (a' := ?_) bN39_ rfl rfl (any_of HT_.out (by kernel_rfl)) (fun _ _ _ h => h) (Or.inl ⟨by rfl, ?_⟩) ?_ ?_; rotate_left; (intro w'; go_simp; with_reducible rfl); rotate_left; (simp only [Act.put, List.setIfInBounds_toArray, List.set_cons_zero, List.set_cons_succ, i64_w, i32_w]; rfl)
                            refine done_ (done_of HT_.out (by kernel_rfl)) ?_
                            try go_wp2
                            go_roundg k6
                            case measure => have := HK1.out; have := HK2.out; have := HK3.out; have := HJ23.out; have := HK5.out; have := HK6.out; omega
                            case rel => exact ⟨(wrap64 (x19_6 + 1)), (by first | rfl | (simp; done) | (simp [*]; done)), H', ⟨by have := HK1.out; have := HK2.out; have := HK3.out; have := HJ23.out; have := HK5.out; have := HK6.out; omega⟩, ⟨by (with_reducible repeat (first | apply Kd.S_alloc | apply Kd.S_drewN | apply Kd.S_drew)); exact HO_10.out⟩, ⟨bx_ BK117⟩, ⟨bx_ BK118⟩, ⟨hx_ HB⟩⟩
                           ·rw [if_neg c133] at H
                            exact absurd H (by simp)
                          ·rw [if_neg c132] at H
                           exact absurd H (by simp)
                         ·rw [if_neg c131] at H
                          exact absurd H (by simp)
                        ·replace c130 := Bool.eq_false_iff.mpr c130
                         subst c130
                         have H1 : (ferrulelaw07_BallotOne.l4 k6 l0_2 t119 x10_3 x18_5 (wrap64 (x19_6 + 1)) l0_0 l0_1) = some r := by rw [if_neg (show ¬ (false = true) by decide)] at H; exact H
                         clear H
                         have H := H1
                         clear H1
                         have H' := am_ H
                         clear H
                         try go_wp2
                         have n0_ := am_ (Kd.S_drew HO_10.out)
                         have n1_ := am_ (blk_drew BK117.out)
                         have n2_ := am_ (blk_drew BK118.out)
                         have n3_ := am_ (below_drew1 HB.out)
                         clear HO_10
                         clear BK117
                         clear BK118
                         clear HB
                         have HO_10 := n0_
                         have BK117 := n1_
                         have BK118 := n2_
                         have HB := n3_
                         clear n0_ n1_ n2_ n3_
                         obtain ⟨Ao141, co141, eo141⟩ := Kd.S_slice HO_10.out
                         (first | subst eo141 | (injection eo141 with f1_ f2_ f3_; have f4_ := f1_.symm; have f5_ := f3_.symm; clear f1_ f2_ f3_; subst f4_; subst f5_))
                         have p153 : 0 ≤ (x18_5 : Int) := of_decide_eq_true (by first | (with_reducible assumption) | assumption)
                         have q153 : x18_5 < (x10_3.length : Int) := of_decide_eq_true (by first | (with_reducible assumption) | assumption)
                         obtain ⟨ad153, A153_0, c153_0, e153, hx153_0, hl153_0, hi153_0⟩ := at_L4 (Kd.S_reads' HO_10.out).2.2 x18_5 p153 q153
                         cases e153
                         obtain ⟨ce153, hce153, hMe153, hcc153⟩ := Kd.S_get HO_10.out [] x18_5 p153 (by first | exact q153 | exact of_decide_eq_true (by first | (with_reducible assumption) | assumption) | (have e_ := (Kd.S_reads' HO_10.out).1; omega))
                         obtain ⟨ve153_0, rfl, ge153_0⟩ := hMe153
                         have hv153_0 := hcc153 0 _ rfl
                         rw [Nat.add_zero, show ((Kd.slice 22 (Kd.int .u64))).sz = 1 from rfl, Nat.mul_one] at hv153_0
                         replace hv153_0 := Option.some.inj (hv153_0.symm.trans hx153_0)
                         rw [hv153_0] at ge153_0
                         have HL153_0 := am_ (show Kd.R (Kd.int .u64) 22 _ _ _ _ (rd_L4 x10_3 x18_5) from ge153_0)
                         clear hv153_0 ge153_0
                         clear hcc153 hce153
                         have HR153_0 := am_ hi153_0
                         have HC153_0 := am_ hl153_0
                         clear hi153_0 hl153_0
                         replace p153 := eq_true p153
                         replace q153 := eq_true q153
                         refine start_ (n := 7) (S := fun w' => w'.cell? ⟨gb118, 0, none⟩ = some (.slice A0_0 l0_0.length c0_0) ∧ w'.cell? ⟨gb118, 1, none⟩ = some (.slice A0_1 l0_1.length c0_1) ∧ w'.cell? (ad153.add (x18_5).toNat) = some (.slice A153_0 (rd_L4 x10_3 x18_5).length c153_0)) (ds := []) bN40_ (by kernel_rfl) rfl rfl ⟨(blk_cell BK118.out 0).trans rfl, (blk_cell BK118.out 1).trans rfl, hx153_0⟩ (fun hHeld => ?_)
                         generalize wr.drew = w140 at HO_10 BK117 BK118 HB HL153_0 HR153_0 hx153_0 hHeld ⊢
                         refine pure_ (i := 1) (N := some 150) (v := ?_) (a' := ?_) bN41_ rfl rfl (by kernel_rfl) (fun _ _ _ h => h) (Or.inl ⟨by rfl, ?_⟩) ?_ ?_; rotate_left; (intro w'; go_simp; with_reducible rfl); rotate_left; (simp only [Act.put, List.setIfInBounds_toArray, List.set_cons_zero, List.set_cons_succ, i64_w, i32_w]; rfl)
                         refine pure_ (i := 2) (N := some 151) (v := ?_) (a' := ?_) bN42_ rfl rfl (by kernel_rfl) (fun _ _ _ h => h) (Or.inl ⟨by rfl, ?_⟩) ?_ ?_; rotate_left; (intro w'; go_simp; with_reducible rfl); rotate_left; (simp only [Act.put, List.setIfInBounds_toArray, List.set_cons_zero, List.set_cons_succ, i64_w, i32_w]; rfl)
                         refine pure_ (i := 3) (N := some 152) (v := ?_) (a' := ?_) bN43_ rfl rfl (by kernel_rfl) (fun _ _ _ h => h) (Or.inl ⟨by rfl, ?_⟩) ?_ ?_; rotate_left; (intro w'; go_simp; with_reducible rfl); rotate_left; (simp only [Act.put, List.setIfInBounds_toArray, List.set_cons_zero, List.set_cons_succ, i64_w, i32_w]; rfl)
                         refine take_ (i := 0) (N := some 149) (v := ?_) (a' := ?_) bN44_ rfl rfl (by kernel_rfl) (fun _ _ _ h => h) (Or.inl ⟨by rfl, ?_⟩) hHeld ?_ ?_; rotate_left; (rintro w' ⟨s0, s1, s2⟩; go_simp; with_reducible rfl); rotate_left; (simp only [Act.put, List.setIfInBounds_toArray, List.set_cons_zero, List.set_cons_succ, i64_w, i32_w]; rfl)
                         refine take_ (i := 4) (N := some 153) (v := ?_) (a' := ?_) bN45_ rfl rfl (by kernel_rfl) (fun _ _ _ h => h) (Or.inl ⟨by rfl, ?_⟩) hHeld ?_ ?_; rotate_left; (rintro w' ⟨s0, s1, s2⟩; go_simp; with_reducible rfl); rotate_left; (simp only [Act.put, List.setIfInBounds_toArray, List.set_cons_zero, List.set_cons_succ, i64_w, i32_w]; rfl)
                         refine one_ (i := 5) (N := some 154) bN46_ rfl rfl (by kernel_rfl) (by decide) (fun K hK => ?_)
                         refine goes_ Try.func12 (by kernel_rfl) rfl #[.agg #[.slice A0_0 l0_0.length c0_0, .slice A0_1 l0_1.length c0_1], .slice A153_0 (rd_L4 x10_3 x18_5).length c153_0] (by rfl) rfl rfl (by (try simp only [List.map_toArray, List.map_cons, List.map_nil]); first | done | rfl | (simp only [List.length_drop, List.length_take]; rfl)) ?_
                         with_reducible refine (ferruleref06_Most.calls k6 _ _ l0_0 _ _ l0_1 _ _ (rd_L4 x10_3 x18_5) true _ ?side1 ?side2 ?side3 ?side4 ?side5 ?side6 A125.out).mono ?_
                         (case side1 => repeat (first | exact (Kd.C_below HR0_0.out HB.out) | (with_reducible refine Kd.C_alloc ?_ _) | (with_reducible refine Kd.C_drewN ?_ _) | (with_reducible refine Kd.C_drew ?_)))
                         (case side2 => exact HC0_0.out)
                         (case side3 => repeat (first | exact (Kd.C_below HR0_1.out HB.out) | (with_reducible refine Kd.C_alloc ?_ _) | (with_reducible refine Kd.C_drewN ?_ _) | (with_reducible refine Kd.C_drew ?_)))
                         (case side4 => exact HC0_1.out)
                         (case side5 => repeat (first | exact (by repeat (first | (with_reducible exact HR153_0.out) | (with_reducible refine Kd.C_alloc ?_ _) | (with_reducible refine Kd.C_drewN ?_ _) | (with_reducible refine Kd.C_drew ?_) | exact HR153_0.out)) | (with_reducible refine Kd.C_alloc ?_ _) | (with_reducible refine Kd.C_drewN ?_ _) | (with_reducible refine Kd.C_drew ?_)))
                         (case side6 => exact HC153_0.out)
                         rintro e w142 ⟨rfl, hb⟩
                         have HS2_ := (hb.cell (World.block_lt_of_cell? _ _ (hHeld.2.2))).trans (hHeld.2.2)
                         refine ⟨_, rfl, ?_⟩
                         have n0_ := am_ (Kd.S_below (by (with_reducible repeat (first | apply Kd.S_alloc | apply Kd.S_drewN | apply Kd.S_drew)); exact HO_10.out) hb)
                         have n1_ := am_ (Kd.R_below (rx_ HL153_0) hb)
                         have n2_ := am_ (blk_below (g := gb117) (o := .cells #[.slice A0_0 l0_0.length c0_0, .slice A0_1 l0_1.length c0_1, .slice A0_2 l0_2.length c0_2, .slice A0_3 l0_3.length c0_3, .int .u64 a0_4] 38 (0, 0)) (bx_ BK117) hb)
                         have n3_ := am_ (blk_below (g := gb118) (o := .cells #[.slice A0_0 l0_0.length c0_0, .slice A0_1 l0_1.length c0_1] 35 (0, 0)) (bx_ BK118) hb)
                         have n4_ := am_ (Kd.C_below (by repeat (first | (with_reducible exact HR153_0.out) | (with_reducible refine Kd.C_alloc ?_ _) | (with_reducible refine Kd.C_drewN ?_ _) | (with_reducible refine Kd.C_drew ?_) | exact HR153_0.out)) hb)
                         have n5_ := am_ (below_step (hx_ HB) hb)
                         clear HO_10
                         clear HL153_0
                         clear BK117
                         clear BK118
                         clear HR153_0
                         clear HB
                         have HO_10 := n0_
                         have HL153_0 := n1_
                         have BK117 := n2_
                         have BK118 := n3_
                         have HR153_0 := n4_
                         have HB := n5_
                         clear n0_ n1_ n2_ n3_ n4_ n5_
                         (try clear hb)
                         (try clear hb2)
                         (try clear hk)
                         (try clear hi)
                         refine hK.out _ _ ⟨(blk_cell BK118.out 0).trans rfl, (blk_cell BK118.out 1).trans rfl, HS2_⟩ (fun hHeld => ?_)
                         clear hK K
                         refine norm_ (a' := ?_) ?_ ?_
                         rotate_left
                         ·show Act.put _ (some 154) _ = _
                          simp only [Act.put, List.setIfInBounds_toArray, List.set_cons_zero, List.set_cons_succ, i64_w, i32_w]
                          rfl
                         refine pure_ (i := 6) (N := some 20) (v := ?_) (a' := ?_) bN47_ rfl rfl (by kernel_rfl) (fun _ _ _ h => h) (Or.inl ⟨by rfl, ?_⟩) ?_ ?_; rotate_left; (intro w'; go_simp; with_reducible rfl); rotate_left; (simp only [Act.put, List.setIfInBounds_toArray, List.set_cons_zero, List.set_cons_succ, i64_w, i32_w]; rfl)
                         refine done_ (by kernel_rfl) ?_
                         try go_wp2
                         have n0_ := am_ (Kd.S_drew HO_10.out)
                         have n1_ := am_ (Kd.R_drew HL153_0.out)
                         have n2_ := am_ (blk_drew BK117.out)
                         have n3_ := am_ (blk_drew BK118.out)
                         have n4_ := am_ (Kd.C_drew HR153_0.out)
                         have n5_ := am_ (below_drew1 HB.out)
                         clear HO_10
                         clear HL153_0
                         clear BK117
                         clear BK118
                         clear HR153_0
                         clear HB
                         have HO_10 := n0_
                         have HL153_0 := n1_
                         have BK117 := n2_
                         have BK118 := n3_
                         have HR153_0 := n4_
                         have HB := n5_
                         clear n0_ n1_ n2_ n3_ n4_ n5_
                         have p155 : 0 ≤ (x19_6 : Int) := of_decide_eq_true (by first | (with_reducible assumption) | assumption)
                         have q155 : x19_6 < (x10_3.length : Int) := of_decide_eq_true (by first | (with_reducible assumption) | assumption)
                         obtain ⟨ad155, A155_0, c155_0, e155, hx155_0, hl155_0, hi155_0⟩ := at_L4 (Kd.S_reads' HO_10.out).2.2 x19_6 p155 q155
                         obtain rfl : ad153 = ad155 := (by injection e155)
                         obtain ⟨ce155, hce155, hMe155, hcc155⟩ := Kd.S_get HO_10.out [] x19_6 p155 (by first | exact q155 | exact of_decide_eq_true (by first | (with_reducible assumption) | assumption) | (have e_ := (Kd.S_reads' HO_10.out).1; omega))
                         obtain ⟨ve155_0, rfl, ge155_0⟩ := hMe155
                         have hv155_0 := hcc155 0 _ rfl
                         rw [Nat.add_zero, show ((Kd.slice 22 (Kd.int .u64))).sz = 1 from rfl, Nat.mul_one] at hv155_0
                         replace hv155_0 := Option.some.inj (hv155_0.symm.trans hx155_0)
                         rw [hv155_0] at ge155_0
                         have HL155_0 := am_ (show Kd.R (Kd.int .u64) 22 _ _ _ _ (rd_L4 x10_3 x19_6) from ge155_0)
                         clear hv155_0 ge155_0
                         clear hcc155 hce155
                         have HR155_0 := am_ hi155_0
                         have HC155_0 := am_ hl155_0
                         clear hi155_0 hl155_0
                         replace p155 := eq_true p155
                         replace q155 := eq_true q155
                         refine start_ (n := 7) (S := fun w' => w'.cell? ⟨gb118, 0, none⟩ = some (.slice A0_0 l0_0.length c0_0) ∧ w'.cell? ⟨gb118, 1, none⟩ = some (.slice A0_1 l0_1.length c0_1) ∧ w'.cell? (ad153.add (x19_6).toNat) = some (.slice A155_0 (rd_L4 x10_3 x19_6).length c155_0)) (ds := []) bN40_ (by kernel_rfl) rfl rfl ⟨(blk_cell BK118.out 0).trans rfl, (blk_cell BK118.out 1).trans rfl, hx155_0⟩ (fun hHeld => ?_)
                         generalize w142.drew = w143 at HO_10 HL153_0 BK117 BK118 HR153_0 HB HL155_0 HR155_0 hx155_0 hHeld ⊢
                         refine pure_ (i := 1) (N := some 156) (v := ?_) (a' := ?_) bN41_ rfl rfl (by kernel_rfl) (fun _ _ _ h => h) (Or.inl ⟨by rfl, ?_⟩) ?_ ?_; rotate_left; (intro w'; go_simp; with_reducible rfl); rotate_left; (simp only [Act.put, List.setIfInBounds_toArray, List.set_cons_zero, List.set_cons_succ, i64_w, i32_w]; rfl)
                         refine pure_ (i := 2) (N := some 157) (v := ?_) (a' := ?_) bN42_ rfl rfl (by kernel_rfl) (fun _ _ _ h => h) (Or.inl ⟨by rfl, ?_⟩) ?_ ?_; rotate_left; (intro w'; go_simp; with_reducible rfl); rotate_left; (simp only [Act.put, List.setIfInBounds_toArray, List.set_cons_zero, List.set_cons_succ, i64_w, i32_w]; rfl)
                         refine pure_ (i := 3) (N := some 158) (v := ?_) (a' := ?_) bN43_ rfl rfl (by kernel_rfl) (fun _ _ _ h => h) (Or.inl ⟨by rfl, ?_⟩) ?_ ?_; rotate_left; (intro w'; go_simp; with_reducible rfl); rotate_left; (simp only [Act.put, List.setIfInBounds_toArray, List.set_cons_zero, List.set_cons_succ, i64_w, i32_w]; rfl)
                         refine take_ (i := 0) (N := some 155) (v := ?_) (a' := ?_) bN44_ rfl rfl (by kernel_rfl) (fun _ _ _ h => h) (Or.inl ⟨by rfl, ?_⟩) hHeld ?_ ?_; rotate_left; (rintro w' ⟨s0, s1, s2⟩; go_simp; with_reducible rfl); rotate_left; (simp only [Act.put, List.setIfInBounds_toArray, List.set_cons_zero, List.set_cons_succ, i64_w, i32_w]; rfl)
                         refine take_ (i := 4) (N := some 159) (v := ?_) (a' := ?_) bN45_ rfl rfl (by kernel_rfl) (fun _ _ _ h => h) (Or.inl ⟨by rfl, ?_⟩) hHeld ?_ ?_; rotate_left; (rintro w' ⟨s0, s1, s2⟩; go_simp; with_reducible rfl); rotate_left; (simp only [Act.put, List.setIfInBounds_toArray, List.set_cons_zero, List.set_cons_succ, i64_w, i32_w]; rfl)
                         refine one_ (i := 5) (N := some 160) bN46_ rfl rfl (by kernel_rfl) (by decide) (fun K hK => ?_)
                         refine goes_ Try.func12 (by kernel_rfl) rfl #[.agg #[.slice A0_0 l0_0.length c0_0, .slice A0_1 l0_1.length c0_1], .slice A155_0 (rd_L4 x10_3 x19_6).length c155_0] (by rfl) rfl rfl (by (try simp only [List.map_toArray, List.map_cons, List.map_nil]); first | done | rfl | (simp only [List.length_drop, List.length_take]; rfl)) ?_
                         with_reducible refine (ferruleref06_Most.calls k6 _ _ l0_0 _ _ l0_1 _ _ (rd_L4 x10_3 x19_6) false _ ?side1 ?side2 ?side3 ?side4 ?side5 ?side6 A128.out).mono ?_
                         (case side1 => repeat (first | exact (Kd.C_below HR0_0.out HB.out) | (with_reducible refine Kd.C_alloc ?_ _) | (with_reducible refine Kd.C_drewN ?_ _) | (with_reducible refine Kd.C_drew ?_)))
                         (case side2 => exact HC0_0.out)
                         (case side3 => repeat (first | exact (Kd.C_below HR0_1.out HB.out) | (with_reducible refine Kd.C_alloc ?_ _) | (with_reducible refine Kd.C_drewN ?_ _) | (with_reducible refine Kd.C_drew ?_)))
                         (case side4 => exact HC0_1.out)
                         (case side5 => repeat (first | exact (by repeat (first | (with_reducible exact HR155_0.out) | (with_reducible refine Kd.C_alloc ?_ _) | (with_reducible refine Kd.C_drewN ?_ _) | (with_reducible refine Kd.C_drew ?_) | exact HR155_0.out)) | (with_reducible refine Kd.C_alloc ?_ _) | (with_reducible refine Kd.C_drewN ?_ _) | (with_reducible refine Kd.C_drew ?_)))
                         (case side6 => exact HC155_0.out)
                         rintro e w144 ⟨rfl, hb⟩
                         have HS2_ := (hb.cell (World.block_lt_of_cell? _ _ (hHeld.2.2))).trans (hHeld.2.2)
                         refine ⟨_, rfl, ?_⟩
                         have n0_ := am_ (Kd.S_below (by (with_reducible repeat (first | apply Kd.S_alloc | apply Kd.S_drewN | apply Kd.S_drew)); exact HO_10.out) hb)
                         have n1_ := am_ (Kd.R_below (rx_ HL153_0) hb)
                         have n2_ := am_ (Kd.R_below (rx_ HL155_0) hb)
                         have n3_ := am_ (blk_below (g := gb117) (o := .cells #[.slice A0_0 l0_0.length c0_0, .slice A0_1 l0_1.length c0_1, .slice A0_2 l0_2.length c0_2, .slice A0_3 l0_3.length c0_3, .int .u64 a0_4] 38 (0, 0)) (bx_ BK117) hb)
                         have n4_ := am_ (blk_below (g := gb118) (o := .cells #[.slice A0_0 l0_0.length c0_0, .slice A0_1 l0_1.length c0_1] 35 (0, 0)) (bx_ BK118) hb)
                         have n5_ := am_ (Kd.C_below (by repeat (first | (with_reducible exact HR153_0.out) | (with_reducible refine Kd.C_alloc ?_ _) | (with_reducible refine Kd.C_drewN ?_ _) | (with_reducible refine Kd.C_drew ?_) | exact HR153_0.out)) hb)
                         have n6_ := am_ (Kd.C_below (by repeat (first | (with_reducible exact HR155_0.out) | (with_reducible refine Kd.C_alloc ?_ _) | (with_reducible refine Kd.C_drewN ?_ _) | (with_reducible refine Kd.C_drew ?_) | exact HR155_0.out)) hb)
                         have n7_ := am_ (below_step (hx_ HB) hb)
                         clear HO_10
                         clear HL153_0
                         clear HL155_0
                         clear BK117
                         clear BK118
                         clear HR153_0
                         clear HR155_0
                         clear HB
                         have HO_10 := n0_
                         have HL153_0 := n1_
                         have HL155_0 := n2_
                         have BK117 := n3_
                         have BK118 := n4_
                         have HR153_0 := n5_
                         have HR155_0 := n6_
                         have HB := n7_
                         clear n0_ n1_ n2_ n3_ n4_ n5_ n6_ n7_
                         (try clear hb)
                         (try clear hb2)
                         (try clear hk)
                         (try clear hi)
                         refine hK.out _ _ ⟨(blk_cell BK118.out 0).trans rfl, (blk_cell BK118.out 1).trans rfl, HS2_⟩ (fun hHeld => ?_)
                         clear hK K
                         refine norm_ (a' := ?_) ?_ ?_
                         rotate_left
                         ·show Act.put _ (some 160) _ = _
                          simp only [Act.put, List.setIfInBounds_toArray, List.set_cons_zero, List.set_cons_succ, i64_w, i32_w]
                          rfl
                         refine pure_ (i := 6) (N := some 21) (v := ?_) (a' := ?_) bN47_ rfl rfl (by kernel_rfl) (fun _ _ _ h => h) (Or.inl ⟨by rfl, ?_⟩) ?_ ?_; rotate_left; (intro w'; go_simp; with_reducible rfl); rotate_left; (simp only [Act.put, List.setIfInBounds_toArray, List.set_cons_zero, List.set_cons_succ, i64_w, i32_w]; rfl)
                         refine done_ (by kernel_rfl) ?_
                         try go_wp2
                         have n0_ := am_ (Kd.S_drew HO_10.out)
                         have n1_ := am_ (Kd.R_drew HL153_0.out)
                         have n2_ := am_ (Kd.R_drew HL155_0.out)
                         have n3_ := am_ (blk_drew BK117.out)
                         have n4_ := am_ (blk_drew BK118.out)
                         have n5_ := am_ (Kd.C_drew HR153_0.out)
                         have n6_ := am_ (Kd.C_drew HR155_0.out)
                         have n7_ := am_ (below_drew1 HB.out)
                         clear HO_10
                         clear HL153_0
                         clear HL155_0
                         clear BK117
                         clear BK118
                         clear HR153_0
                         clear HR155_0
                         clear HB
                         have HO_10 := n0_
                         have HL153_0 := n1_
                         have HL155_0 := n2_
                         have BK117 := n3_
                         have BK118 := n4_
                         have HR153_0 := n5_
                         have HR155_0 := n6_
                         have HB := n7_
                         clear n0_ n1_ n2_ n3_ n4_ n5_ n6_ n7_
                         refine start_ (n := 17) (S := fun w' => True) (ds := []) bN20_ (by kernel_rfl) rfl rfl trivial (fun hHeld => ?_); refine with_tabW ferrulelaw07_BallotOne.tab37 ferrulelaw07_BallotOne.bits37 (fun HT_ HW_ => ?_)
                         generalize w144.drew = w145 at HO_10 HL153_0 HL155_0 BK117 BK118 HR153_0 HR155_0 HB hHeld ⊢
                         refine pure_ (i := 0) (N := some 161) (v := ?_) (a' := ?_) bN21_ rfl rfl (any_of HT_.out (by kernel_rfl)) (fun _ _ _ h => h) (Or.inl ⟨by rfl, ?_⟩) ?_ ?_; rotate_left; (intro w'; go_simp; with_reducible rfl); rotate_left; (simp only [Act.put, List.setIfInBounds_toArray, List.set_cons_zero, List.set_cons_succ, i64_w, i32_w]; rfl)
                         refine pure_ (i := 1) (N := some 162) (v := ?_) (a' := ?_) bN22_ rfl rfl (any_of HT_.out (by kernel_rfl)) (fun _ _ _ h => h) (Or.inl ⟨by rfl, ?_⟩) ?_ ?_; rotate_left; (intro w'; go_simp; with_reducible rfl); rotate_left; (simp only [Act.put, List.setIfInBounds_toArray, List.set_cons_zero, List.set_cons_succ, i64_w, i32_w]; rfl)
                         refine pure_ (i := 2) (N := some 163) (v := ?_) (a' := ?_) bN48_ rfl rfl (any_of HT_.out (by kernel_rfl)) (fun _ _ _ h => h) (Or.inl ⟨by rfl, ?_⟩) ?_ ?_; rotate_left; (intro w'; go_simp; with_reducible rfl); rotate_left; (simp only [Act.put, List.setIfInBounds_toArray, List.set_cons_zero, List.set_cons_succ, i64_w, i32_w]; rfl)
                         refine pure_ (i := 3) (N := some 164) (v := ?_) (a' := ?_) bN49_ rfl rfl (any_of HT_.out (by kernel_rfl)) (fun _ _ _ h => h) (Or.inl ⟨by rfl, ?_⟩) ?_ ?_; rotate_left; (intro w'; go_simp; with_reducible rfl); rotate_left; (simp only [Act.put, List.setIfInBounds_toArray, List.set_cons_zero, List.set_cons_succ, i64_w, i32_w]; rfl)
                         refine pure_ (i := 4) (N := some 165) (v := ?_) (a' := ?_) bN50_ rfl rfl (any_of HT_.out (by kernel_rfl)) (fun _ _ _ h => h) (Or.inl ⟨by rfl, ?_⟩) ?_ ?_; rotate_left; (intro w'; go_simp; with_reducible rfl); rotate_left; (simp only [Act.put, List.setIfInBounds_toArray, List.set_cons_zero, List.set_cons_succ, i64_w, i32_w]; rfl)
                         refine pure_ (i := 5) (N := some 166) (v := undef) (a' := ?_) bN51_ rfl rfl (any_of HT_.out (by kernel_rfl)) (fun _ _ _ h => h) (Or.inr ⟨by rfl, rfl⟩) ?_ ?_; rotate_left; (simp only [Act.put, List.setIfInBounds_toArray, List.set_cons_zero, List.set_cons_succ, i64_w, i32_w]; rfl)
                         refine pure_ (i := 6) (N := some 167) (v := undef) (a' := ?_) bN52_ rfl rfl (any_of HT_.out (by kernel_rfl)) (fun _ _ _ h => h) (Or.inr ⟨by rfl, rfl⟩) ?_ ?_; rotate_left; (simp only [Act.put, List.setIfInBounds_toArray, List.set_cons_zero, List.set_cons_succ, i64_w, i32_w]; rfl)
                         refine pure_ (i := 7) (N := some 168) (v := undef) (a' := ?_) bN53_ rfl rfl (any_of HT_.out (by kernel_rfl)) (fun _ _ _ h => h) (Or.inr ⟨by rfl, rfl⟩) ?_ ?_; rotate_left; (simp only [Act.put, List.setIfInBounds_toArray, List.set_cons_zero, List.set_cons_succ, i64_w, i32_w]; rfl)
                         refine pure_ (i := 8) (N := some 169) (v := undef) (a' := ?_) bN54_ rfl rfl (any_of HT_.out (by kernel_rfl)) (fun _ _ _ h => h) (Or.inr ⟨by rfl, rfl⟩) ?_ ?_; rotate_left; (simp only [Act.put, List.setIfInBounds_toArray, List.set_cons_zero, List.set_cons_succ, i64_w, i32_w]; rfl)
                         refine pure_ (i := 9) (N := some 170) (v := undef) (a' := ?_) bN59_ rfl rfl (any_of HT_.out (by kernel_rfl)) (fun _ _ _ h => h) (Or.inr ⟨by rfl, rfl⟩) ?_ ?_; rotate_left; (simp only [Act.put, List.setIfInBounds_toArray, List.set_cons_zero, List.set_cons_succ, i64_w, i32_w]; rfl)
                         refine pure_ (i := 10) (N := some 171) (v := undef) (a' := ?_) bN60_ rfl rfl (any_of HT_.out (by kernel_rfl)) (fun _ _ _ h => h) (Or.inr ⟨by rfl, rfl⟩) ?_ ?_; rotate_left; (simp only [Act.put, List.setIfInBounds_toArray, List.set_cons_zero, List.set_cons_succ, i64_w, i32_w]; rfl)
                         refine pure_ (i := 11) (N := some 172) (v := undef) (a' := ?_) bN61_ rfl rfl (any_of HT_.out (by kernel_rfl)) (fun _ _ _ h => h) (Or.inr ⟨by rfl, rfl⟩) ?_ ?_; rotate_left; (simp only [Act.put, List.setIfInBounds_toArray, List.set_cons_zero, List.set_cons_succ, i64_w, i32_w]; rfl)
                         refine pure_ (i := 12) (N := some 173) (v := undef) (a' := ?_) bN35_ rfl rfl (any_of HT_.out (by kernel_rfl)) (fun _ _ _ h => h) (Or.inr ⟨by rfl, rfl⟩) ?_ ?_; rotate_left; (simp only [Act.put, List.setIfInBounds_toArray, List.set_cons_zero, List.set_cons_succ, i64_w, i32_w]; rfl)
                         refine pure_ (i := 13) (N := some 174) (v := undef) (a' := ?_) bN32_ rfl rfl (any_of HT_.out (by kernel_rfl)) (fun _ _ _ h => h) (Or.inr ⟨by rfl, rfl⟩) ?_ ?_; rotate_left; (simp only [Act.put, List.setIfInBounds_toArray, List.set_cons_zero, List.set_cons_succ, i64_w, i32_w]; rfl)
                         refine pure_ (i := 14) (N := some 175) (v := undef) (a' := ?_) bN37_ rfl rfl (any_of HT_.out (by kernel_rfl)) (fun _ _ _ h => h) (Or.inr ⟨by rfl, rfl⟩) ?_ ?_; rotate_left; (simp only [Act.put, List.setIfInBounds_toArray, List.set_cons_zero, List.set_cons_succ, i64_w, i32_w]; rfl)
                         refine pure_ (i := 15) (N := some 176) (v := undef) (a' := ?_) bN38_ rfl rfl (any_of HT_.out (by kernel_rfl)) (fun _ _ _ h => h) (Or.inr ⟨by rfl, rfl⟩) ?_ ?_; rotate_left; (simp only [Act.put, List.setIfInBounds_toArray, List.set_cons_zero, List.set_cons_succ, i64_w, i32_w]; rfl)
                         refine pure_ (i := 16) (N := some 177) (v := ?_) (a' := ?_) bN39_ rfl rfl (any_of HT_.out (by kernel_rfl)) (fun _ _ _ h => h) (Or.inl ⟨by rfl, ?_⟩) ?_ ?_; rotate_left; (intro w'; go_simp; with_reducible rfl); rotate_left; (simp only [Act.put, List.setIfInBounds_toArray, List.set_cons_zero, List.set_cons_succ, i64_w, i32_w]; rfl)
                         refine done_ (done_of HT_.out (by kernel_rfl)) ?_
                         try go_wp2
                         go_roundg k6
                         case measure => have := HK1.out; have := HK2.out; have := HK3.out; have := HJ23.out; have := HK5.out; have := HK6.out; omega
                         case rel => exact ⟨(wrap64 (x19_6 + 1)), (by first | rfl | (simp; done) | (simp [*]; done)), H', ⟨by have := HK1.out; have := HK2.out; have := HK3.out; have := HJ23.out; have := HK5.out; have := HK6.out; omega⟩, ⟨by (with_reducible repeat (first | apply Kd.S_alloc | apply Kd.S_drewN | apply Kd.S_drew)); exact HO_10.out⟩, ⟨bx_ BK117⟩, ⟨bx_ BK118⟩, ⟨hx_ HB⟩⟩
                       ·replace c129 := Bool.eq_false_iff.mpr c129
                        subst c129
                        have H1 : (ferrulelaw07_BallotOne.l4 k6 l0_2 t119 x10_3 x18_5 (wrap64 (x19_6 + 1)) l0_0 l0_1) = some r := by rw [if_neg (show ¬ (false = true) by decide)] at H; exact H
                        clear H
                        have H := H1
                        clear H1
                        have H' := am_ H
                        clear H
                        try go_wp2
                        have n0_ := am_ (Kd.S_drew HO_10.out)
                        have n1_ := am_ (blk_drew BK117.out)
                        have n2_ := am_ (blk_drew BK118.out)
                        have n3_ := am_ (below_drew1 HB.out)
                        clear HO_10
                        clear BK117
                        clear BK118
                        clear HB
                        have HO_10 := n0_
                        have BK117 := n1_
                        have BK118 := n2_
                        have HB := n3_
                        clear n0_ n1_ n2_ n3_
                        obtain ⟨Ao147, co147, eo147⟩ := Kd.S_slice HO_10.out
                        (first | subst eo147 | (injection eo147 with f1_ f2_ f3_; have f4_ := f1_.symm; have f5_ := f3_.symm; clear f1_ f2_ f3_; subst f4_; subst f5_))
                        have p153 : 0 ≤ (x18_5 : Int) := of_decide_eq_true (by first | (with_reducible assumption) | assumption)
                        have q153 : x18_5 < (x10_3.length : Int) := of_decide_eq_true (by first | (with_reducible assumption) | assumption)
                        obtain ⟨ad153, A153_0, c153_0, e153, hx153_0, hl153_0, hi153_0⟩ := at_L4 (Kd.S_reads' HO_10.out).2.2 x18_5 p153 q153
                        cases e153
                        obtain ⟨ce153, hce153, hMe153, hcc153⟩ := Kd.S_get HO_10.out [] x18_5 p153 (by first | exact q153 | exact of_decide_eq_true (by first | (with_reducible assumption) | assumption) | (have e_ := (Kd.S_reads' HO_10.out).1; omega))
                        obtain ⟨ve153_0, rfl, ge153_0⟩ := hMe153
                        have hv153_0 := hcc153 0 _ rfl
                        rw [Nat.add_zero, show ((Kd.slice 22 (Kd.int .u64))).sz = 1 from rfl, Nat.mul_one] at hv153_0
                        replace hv153_0 := Option.some.inj (hv153_0.symm.trans hx153_0)
                        rw [hv153_0] at ge153_0
                        have HL153_0 := am_ (show Kd.R (Kd.int .u64) 22 _ _ _ _ (rd_L4 x10_3 x18_5) from ge153_0)
                        clear hv153_0 ge153_0
                        clear hcc153 hce153
                        have HR153_0 := am_ hi153_0
                        have HC153_0 := am_ hl153_0
                        clear hi153_0 hl153_0
                        replace p153 := eq_true p153
                        replace q153 := eq_true q153
                        refine start_ (n := 7) (S := fun w' => w'.cell? ⟨gb118, 0, none⟩ = some (.slice A0_0 l0_0.length c0_0) ∧ w'.cell? ⟨gb118, 1, none⟩ = some (.slice A0_1 l0_1.length c0_1) ∧ w'.cell? (ad153.add (x18_5).toNat) = some (.slice A153_0 (rd_L4 x10_3 x18_5).length c153_0)) (ds := []) bN40_ (by kernel_rfl) rfl rfl ⟨(blk_cell BK118.out 0).trans rfl, (blk_cell BK118.out 1).trans rfl, hx153_0⟩ (fun hHeld => ?_)
                        generalize wr.drew = w146 at HO_10 BK117 BK118 HB HL153_0 HR153_0 hx153_0 hHeld ⊢
                        refine pure_ (i := 1) (N := some 150) (v := ?_) (a' := ?_) bN41_ rfl rfl (by kernel_rfl) (fun _ _ _ h => h) (Or.inl ⟨by rfl, ?_⟩) ?_ ?_; rotate_left; (intro w'; go_simp; with_reducible rfl); rotate_left; (simp only [Act.put, List.setIfInBounds_toArray, List.set_cons_zero, List.set_cons_succ, i64_w, i32_w]; rfl)
                        refine pure_ (i := 2) (N := some 151) (v := ?_) (a' := ?_) bN42_ rfl rfl (by kernel_rfl) (fun _ _ _ h => h) (Or.inl ⟨by rfl, ?_⟩) ?_ ?_; rotate_left; (intro w'; go_simp; with_reducible rfl); rotate_left; (simp only [Act.put, List.setIfInBounds_toArray, List.set_cons_zero, List.set_cons_succ, i64_w, i32_w]; rfl)
                        refine pure_ (i := 3) (N := some 152) (v := ?_) (a' := ?_) bN43_ rfl rfl (by kernel_rfl) (fun _ _ _ h => h) (Or.inl ⟨by rfl, ?_⟩) ?_ ?_; rotate_left; (intro w'; go_simp; with_reducible rfl); rotate_left; (simp only [Act.put, List.setIfInBounds_toArray, List.set_cons_zero, List.set_cons_succ, i64_w, i32_w]; rfl)
                        refine take_ (i := 0) (N := some 149) (v := ?_) (a' := ?_) bN44_ rfl rfl (by kernel_rfl) (fun _ _ _ h => h) (Or.inl ⟨by rfl, ?_⟩) hHeld ?_ ?_; rotate_left; (rintro w' ⟨s0, s1, s2⟩; go_simp; with_reducible rfl); rotate_left; (simp only [Act.put, List.setIfInBounds_toArray, List.set_cons_zero, List.set_cons_succ, i64_w, i32_w]; rfl)
                        refine take_ (i := 4) (N := some 153) (v := ?_) (a' := ?_) bN45_ rfl rfl (by kernel_rfl) (fun _ _ _ h => h) (Or.inl ⟨by rfl, ?_⟩) hHeld ?_ ?_; rotate_left; (rintro w' ⟨s0, s1, s2⟩; go_simp; with_reducible rfl); rotate_left; (simp only [Act.put, List.setIfInBounds_toArray, List.set_cons_zero, List.set_cons_succ, i64_w, i32_w]; rfl)
                        refine one_ (i := 5) (N := some 154) bN46_ rfl rfl (by kernel_rfl) (by decide) (fun K hK => ?_)
                        refine goes_ Try.func12 (by kernel_rfl) rfl #[.agg #[.slice A0_0 l0_0.length c0_0, .slice A0_1 l0_1.length c0_1], .slice A153_0 (rd_L4 x10_3 x18_5).length c153_0] (by rfl) rfl rfl (by (try simp only [List.map_toArray, List.map_cons, List.map_nil]); first | done | rfl | (simp only [List.length_drop, List.length_take]; rfl)) ?_
                        with_reducible refine (ferruleref06_Most.calls k6 _ _ l0_0 _ _ l0_1 _ _ (rd_L4 x10_3 x18_5) false _ ?side1 ?side2 ?side3 ?side4 ?side5 ?side6 A125.out).mono ?_
                        (case side1 => repeat (first | exact (Kd.C_below HR0_0.out HB.out) | (with_reducible refine Kd.C_alloc ?_ _) | (with_reducible refine Kd.C_drewN ?_ _) | (with_reducible refine Kd.C_drew ?_)))
                        (case side2 => exact HC0_0.out)
                        (case side3 => repeat (first | exact (Kd.C_below HR0_1.out HB.out) | (with_reducible refine Kd.C_alloc ?_ _) | (with_reducible refine Kd.C_drewN ?_ _) | (with_reducible refine Kd.C_drew ?_)))
                        (case side4 => exact HC0_1.out)
                        (case side5 => repeat (first | exact (by repeat (first | (with_reducible exact HR153_0.out) | (with_reducible refine Kd.C_alloc ?_ _) | (with_reducible refine Kd.C_drewN ?_ _) | (with_reducible refine Kd.C_drew ?_) | exact HR153_0.out)) | (with_reducible refine Kd.C_alloc ?_ _) | (with_reducible refine Kd.C_drewN ?_ _) | (with_reducible refine Kd.C_drew ?_)))
                        (case side6 => exact HC153_0.out)
                        rintro e w148 ⟨rfl, hb⟩
                        have HS2_ := (hb.cell (World.block_lt_of_cell? _ _ (hHeld.2.2))).trans (hHeld.2.2)
                        refine ⟨_, rfl, ?_⟩
                        have n0_ := am_ (Kd.S_below (by (with_reducible repeat (first | apply Kd.S_alloc | apply Kd.S_drewN | apply Kd.S_drew)); exact HO_10.out) hb)
                        have n1_ := am_ (Kd.R_below (rx_ HL153_0) hb)
                        have n2_ := am_ (blk_below (g := gb117) (o := .cells #[.slice A0_0 l0_0.length c0_0, .slice A0_1 l0_1.length c0_1, .slice A0_2 l0_2.length c0_2, .slice A0_3 l0_3.length c0_3, .int .u64 a0_4] 38 (0, 0)) (bx_ BK117) hb)
                        have n3_ := am_ (blk_below (g := gb118) (o := .cells #[.slice A0_0 l0_0.length c0_0, .slice A0_1 l0_1.length c0_1] 35 (0, 0)) (bx_ BK118) hb)
                        have n4_ := am_ (Kd.C_below (by repeat (first | (with_reducible exact HR153_0.out) | (with_reducible refine Kd.C_alloc ?_ _) | (with_reducible refine Kd.C_drewN ?_ _) | (with_reducible refine Kd.C_drew ?_) | exact HR153_0.out)) hb)
                        have n5_ := am_ (below_step (hx_ HB) hb)
                        clear HO_10
                        clear HL153_0
                        clear BK117
                        clear BK118
                        clear HR153_0
                        clear HB
                        have HO_10 := n0_
                        have HL153_0 := n1_
                        have BK117 := n2_
                        have BK118 := n3_
                        have HR153_0 := n4_
                        have HB := n5_
                        clear n0_ n1_ n2_ n3_ n4_ n5_
                        (try clear hb)
                        (try clear hb2)
                        (try clear hk)
                        (try clear hi)
                        refine hK.out _ _ ⟨(blk_cell BK118.out 0).trans rfl, (blk_cell BK118.out 1).trans rfl, HS2_⟩ (fun hHeld => ?_)
                        clear hK K
                        refine norm_ (a' := ?_) ?_ ?_
                        rotate_left
                        ·show Act.put _ (some 154) _ = _
                         simp only [Act.put, List.setIfInBounds_toArray, List.set_cons_zero, List.set_cons_succ, i64_w, i32_w]
                         rfl
                        refine pure_ (i := 6) (N := some 20) (v := ?_) (a' := ?_) bN47_ rfl rfl (by kernel_rfl) (fun _ _ _ h => h) (Or.inl ⟨by rfl, ?_⟩) ?_ ?_; rotate_left; (intro w'; go_simp; with_reducible rfl); rotate_left; (simp only [Act.put, List.setIfInBounds_toArray, List.set_cons_zero, List.set_cons_succ, i64_w, i32_w]; rfl)
                        refine done_ (by kernel_rfl) ?_
                        try go_wp2
                        have n0_ := am_ (Kd.S_drew HO_10.out)
                        have n1_ := am_ (Kd.R_drew HL153_0.out)
                        have n2_ := am_ (blk_drew BK117.out)
                        have n3_ := am_ (blk_drew BK118.out)
                        have n4_ := am_ (Kd.C_drew HR153_0.out)
                        have n5_ := am_ (below_drew1 HB.out)
                        clear HO_10
                        clear HL153_0
                        clear BK117
                        clear BK118
                        clear HR153_0
                        clear HB
                        have HO_10 := n0_
                        have HL153_0 := n1_
                        have BK117 := n2_
                        have BK118 := n3_
                        have HR153_0 := n4_
                        have HB := n5_
                        clear n0_ n1_ n2_ n3_ n4_ n5_
                        have p155 : 0 ≤ (x19_6 : Int) := of_decide_eq_true (by first | (with_reducible assumption) | assumption)
                        have q155 : x19_6 < (x10_3.length : Int) := of_decide_eq_true (by first | (with_reducible assumption) | assumption)
                        obtain ⟨ad155, A155_0, c155_0, e155, hx155_0, hl155_0, hi155_0⟩ := at_L4 (Kd.S_reads' HO_10.out).2.2 x19_6 p155 q155
                        obtain rfl : ad153 = ad155 := (by injection e155)
                        obtain ⟨ce155, hce155, hMe155, hcc155⟩ := Kd.S_get HO_10.out [] x19_6 p155 (by first | exact q155 | exact of_decide_eq_true (by first | (with_reducible assumption) | assumption) | (have e_ := (Kd.S_reads' HO_10.out).1; omega))
                        obtain ⟨ve155_0, rfl, ge155_0⟩ := hMe155
                        have hv155_0 := hcc155 0 _ rfl
                        rw [Nat.add_zero, show ((Kd.slice 22 (Kd.int .u64))).sz = 1 from rfl, Nat.mul_one] at hv155_0
                        replace hv155_0 := Option.some.inj (hv155_0.symm.trans hx155_0)
                        rw [hv155_0] at ge155_0
                        have HL155_0 := am_ (show Kd.R (Kd.int .u64) 22 _ _ _ _ (rd_L4 x10_3 x19_6) from ge155_0)
                        clear hv155_0 ge155_0
                        clear hcc155 hce155
                        have HR155_0 := am_ hi155_0
                        have HC155_0 := am_ hl155_0
                        clear hi155_0 hl155_0
                        replace p155 := eq_true p155
                        replace q155 := eq_true q155
                        refine start_ (n := 7) (S := fun w' => w'.cell? ⟨gb118, 0, none⟩ = some (.slice A0_0 l0_0.length c0_0) ∧ w'.cell? ⟨gb118, 1, none⟩ = some (.slice A0_1 l0_1.length c0_1) ∧ w'.cell? (ad153.add (x19_6).toNat) = some (.slice A155_0 (rd_L4 x10_3 x19_6).length c155_0)) (ds := []) bN40_ (by kernel_rfl) rfl rfl ⟨(blk_cell BK118.out 0).trans rfl, (blk_cell BK118.out 1).trans rfl, hx155_0⟩ (fun hHeld => ?_)
                        generalize w148.drew = w149 at HO_10 HL153_0 BK117 BK118 HR153_0 HB HL155_0 HR155_0 hx155_0 hHeld ⊢
                        refine pure_ (i := 1) (N := some 156) (v := ?_) (a' := ?_) bN41_ rfl rfl (by kernel_rfl) (fun _ _ _ h => h) (Or.inl ⟨by rfl, ?_⟩) ?_ ?_; rotate_left; (intro w'; go_simp; with_reducible rfl); rotate_left; (simp only [Act.put, List.setIfInBounds_toArray, List.set_cons_zero, List.set_cons_succ, i64_w, i32_w]; rfl)
                        refine pure_ (i := 2) (N := some 157) (v := ?_) (a' := ?_) bN42_ rfl rfl (by kernel_rfl) (fun _ _ _ h => h) (Or.inl ⟨by rfl, ?_⟩) ?_ ?_; rotate_left; (intro w'; go_simp; with_reducible rfl); rotate_left; (simp only [Act.put, List.setIfInBounds_toArray, List.set_cons_zero, List.set_cons_succ, i64_w, i32_w]; rfl)
                        refine pure_ (i := 3) (N := some 158) (v := ?_) (a' := ?_) bN43_ rfl rfl (by kernel_rfl) (fun _ _ _ h => h) (Or.inl ⟨by rfl, ?_⟩) ?_ ?_; rotate_left; (intro w'; go_simp; with_reducible rfl); rotate_left; (simp only [Act.put, List.setIfInBounds_toArray, List.set_cons_zero, List.set_cons_succ, i64_w, i32_w]; rfl)
                        refine take_ (i := 0) (N := some 155) (v := ?_) (a' := ?_) bN44_ rfl rfl (by kernel_rfl) (fun _ _ _ h => h) (Or.inl ⟨by rfl, ?_⟩) hHeld ?_ ?_; rotate_left; (rintro w' ⟨s0, s1, s2⟩; go_simp; with_reducible rfl); rotate_left; (simp only [Act.put, List.setIfInBounds_toArray, List.set_cons_zero, List.set_cons_succ, i64_w, i32_w]; rfl)
                        refine take_ (i := 4) (N := some 159) (v := ?_) (a' := ?_) bN45_ rfl rfl (by kernel_rfl) (fun _ _ _ h => h) (Or.inl ⟨by rfl, ?_⟩) hHeld ?_ ?_; rotate_left; (rintro w' ⟨s0, s1, s2⟩; go_simp; with_reducible rfl); rotate_left; (simp only [Act.put, List.setIfInBounds_toArray, List.set_cons_zero, List.set_cons_succ, i64_w, i32_w]; rfl)
                        refine one_ (i := 5) (N := some 160) bN46_ rfl rfl (by kernel_rfl) (by decide) (fun K hK => ?_)
                        refine goes_ Try.func12 (by kernel_rfl) rfl #[.agg #[.slice A0_0 l0_0.length c0_0, .slice A0_1 l0_1.length c0_1], .slice A155_0 (rd_L4 x10_3 x19_6).length c155_0] (by rfl) rfl rfl (by (try simp only [List.map_toArray, List.map_cons, List.map_nil]); first | done | rfl | (simp only [List.length_drop, List.length_take]; rfl)) ?_
                        with_reducible refine (ferruleref06_Most.calls k6 _ _ l0_0 _ _ l0_1 _ _ (rd_L4 x10_3 x19_6) t156 _ ?side1 ?side2 ?side3 ?side4 ?side5 ?side6 A128.out).mono ?_
                        (case side1 => repeat (first | exact (Kd.C_below HR0_0.out HB.out) | (with_reducible refine Kd.C_alloc ?_ _) | (with_reducible refine Kd.C_drewN ?_ _) | (with_reducible refine Kd.C_drew ?_)))
                        (case side2 => exact HC0_0.out)
                        (case side3 => repeat (first | exact (Kd.C_below HR0_1.out HB.out) | (with_reducible refine Kd.C_alloc ?_ _) | (with_reducible refine Kd.C_drewN ?_ _) | (with_reducible refine Kd.C_drew ?_)))
                        (case side4 => exact HC0_1.out)
                        (case side5 => repeat (first | exact (by repeat (first | (with_reducible exact HR155_0.out) | (with_reducible refine Kd.C_alloc ?_ _) | (with_reducible refine Kd.C_drewN ?_ _) | (with_reducible refine Kd.C_drew ?_) | exact HR155_0.out)) | (with_reducible refine Kd.C_alloc ?_ _) | (with_reducible refine Kd.C_drewN ?_ _) | (with_reducible refine Kd.C_drew ?_)))
                        (case side6 => exact HC155_0.out)
                        rintro e w150 ⟨rfl, hb⟩
                        have HS2_ := (hb.cell (World.block_lt_of_cell? _ _ (hHeld.2.2))).trans (hHeld.2.2)
                        refine ⟨_, rfl, ?_⟩
                        have n0_ := am_ (Kd.S_below (by (with_reducible repeat (first | apply Kd.S_alloc | apply Kd.S_drewN | apply Kd.S_drew)); exact HO_10.out) hb)
                        have n1_ := am_ (Kd.R_below (rx_ HL153_0) hb)
                        have n2_ := am_ (Kd.R_below (rx_ HL155_0) hb)
                        have n3_ := am_ (blk_below (g := gb117) (o := .cells #[.slice A0_0 l0_0.length c0_0, .slice A0_1 l0_1.length c0_1, .slice A0_2 l0_2.length c0_2, .slice A0_3 l0_3.length c0_3, .int .u64 a0_4] 38 (0, 0)) (bx_ BK117) hb)
                        have n4_ := am_ (blk_below (g := gb118) (o := .cells #[.slice A0_0 l0_0.length c0_0, .slice A0_1 l0_1.length c0_1] 35 (0, 0)) (bx_ BK118) hb)
                        have n5_ := am_ (Kd.C_below (by repeat (first | (with_reducible exact HR153_0.out) | (with_reducible refine Kd.C_alloc ?_ _) | (with_reducible refine Kd.C_drewN ?_ _) | (with_reducible refine Kd.C_drew ?_) | exact HR153_0.out)) hb)
                        have n6_ := am_ (Kd.C_below (by repeat (first | (with_reducible exact HR155_0.out) | (with_reducible refine Kd.C_alloc ?_ _) | (with_reducible refine Kd.C_drewN ?_ _) | (with_reducible refine Kd.C_drew ?_) | exact HR155_0.out)) hb)
                        have n7_ := am_ (below_step (hx_ HB) hb)
                        clear HO_10
                        clear HL153_0
                        clear HL155_0
                        clear BK117
                        clear BK118
                        clear HR153_0
                        clear HR155_0
                        clear HB
                        have HO_10 := n0_
                        have HL153_0 := n1_
                        have HL155_0 := n2_
                        have BK117 := n3_
                        have BK118 := n4_
                        have HR153_0 := n5_
                        have HR155_0 := n6_
                        have HB := n7_
                        clear n0_ n1_ n2_ n3_ n4_ n5_ n6_ n7_
                        (try clear hb)
                        (try clear hb2)
                        (try clear hk)
                        (try clear hi)
                        refine hK.out _ _ ⟨(blk_cell BK118.out 0).trans rfl, (blk_cell BK118.out 1).trans rfl, HS2_⟩ (fun hHeld => ?_)
                        clear hK K
                        refine norm_ (a' := ?_) ?_ ?_
                        rotate_left
                        ·show Act.put _ (some 160) _ = _
                         simp only [Act.put, List.setIfInBounds_toArray, List.set_cons_zero, List.set_cons_succ, i64_w, i32_w]
                         rfl
                        refine pure_ (i := 6) (N := some 21) (v := ?_) (a' := ?_) bN47_ rfl rfl (by kernel_rfl) (fun _ _ _ h => h) (Or.inl ⟨by rfl, ?_⟩) ?_ ?_; rotate_left; (intro w'; go_simp; with_reducible rfl); rotate_left; (simp only [Act.put, List.setIfInBounds_toArray, List.set_cons_zero, List.set_cons_succ, i64_w, i32_w]; rfl)
                        refine done_ (by kernel_rfl) ?_
                        try go_wp2
                        have n0_ := am_ (Kd.S_drew HO_10.out)
                        have n1_ := am_ (Kd.R_drew HL153_0.out)
                        have n2_ := am_ (Kd.R_drew HL155_0.out)
                        have n3_ := am_ (blk_drew BK117.out)
                        have n4_ := am_ (blk_drew BK118.out)
                        have n5_ := am_ (Kd.C_drew HR153_0.out)
                        have n6_ := am_ (Kd.C_drew HR155_0.out)
                        have n7_ := am_ (below_drew1 HB.out)
                        clear HO_10
                        clear HL153_0
                        clear HL155_0
                        clear BK117
                        clear BK118
                        clear HR153_0
                        clear HR155_0
                        clear HB
                        have HO_10 := n0_
                        have HL153_0 := n1_
                        have HL155_0 := n2_
                        have BK117 := n3_
                        have BK118 := n4_
                        have HR153_0 := n5_
                        have HR155_0 := n6_
                        have HB := n7_
                        clear n0_ n1_ n2_ n3_ n4_ n5_ n6_ n7_
                        refine start_ (n := 17) (S := fun w' => True) (ds := []) bN20_ (by kernel_rfl) rfl rfl trivial (fun hHeld => ?_); refine with_tabW ferrulelaw07_BallotOne.tab37 ferrulelaw07_BallotOne.bits37 (fun HT_ HW_ => ?_)
                        generalize w150.drew = w151 at HO_10 HL153_0 HL155_0 BK117 BK118 HR153_0 HR155_0 HB hHeld ⊢
                        refine pure_ (i := 0) (N := some 161) (v := ?_) (a' := ?_) bN21_ rfl rfl (any_of HT_.out (by kernel_rfl)) (fun _ _ _ h => h) (Or.inl ⟨by rfl, ?_⟩) ?_ ?_; rotate_left; (intro w'; go_simp; with_reducible rfl); rotate_left; (simp only [Act.put, List.setIfInBounds_toArray, List.set_cons_zero, List.set_cons_succ, i64_w, i32_w]; rfl)
                        refine pure_ (i := 1) (N := some 162) (v := ?_) (a' := ?_) bN22_ rfl rfl (any_of HT_.out (by kernel_rfl)) (fun _ _ _ h => h) (Or.inl ⟨by rfl, ?_⟩) ?_ ?_; rotate_left; (intro w'; go_simp; with_reducible rfl); rotate_left; (simp only [Act.put, List.setIfInBounds_toArray, List.set_cons_zero, List.set_cons_succ, i64_w, i32_w]; rfl)
                        refine pure_ (i := 2) (N := some 163) (v := undef) (a' := ?_) bN48_ rfl rfl (any_of HT_.out (by kernel_rfl)) (fun _ _ _ h => h) (Or.inr ⟨by rfl, rfl⟩) ?_ ?_; rotate_left; (simp only [Act.put, List.setIfInBounds_toArray, List.set_cons_zero, List.set_cons_succ, i64_w, i32_w]; rfl)
                        refine pure_ (i := 3) (N := some 164) (v := ?_) (a' := ?_) bN49_ rfl rfl (any_of HT_.out (by kernel_rfl)) (fun _ _ _ h => h) (Or.inl ⟨by rfl, ?_⟩) ?_ ?_; rotate_left; (intro w'; go_simp; with_reducible rfl); rotate_left; (simp only [Act.put, List.setIfInBounds_toArray, List.set_cons_zero, List.set_cons_succ, i64_w, i32_w]; rfl)
                        refine pure_ (i := 4) (N := some 165) (v := ?_) (a' := ?_) bN50_ rfl rfl (any_of HT_.out (by kernel_rfl)) (fun _ _ _ h => h) (Or.inl ⟨by rfl, ?_⟩) ?_ ?_; rotate_left; (intro w'; go_simp; with_reducible rfl); rotate_left; (simp only [Act.put, List.setIfInBounds_toArray, List.set_cons_zero, List.set_cons_succ, i64_w, i32_w]; rfl)
                        refine pure_ (i := 5) (N := some 166) (v := undef) (a' := ?_) bN51_ rfl rfl (any_of HT_.out (by kernel_rfl)) (fun _ _ _ h => h) (Or.inr ⟨by rfl, rfl⟩) ?_ ?_; rotate_left; (simp only [Act.put, List.setIfInBounds_toArray, List.set_cons_zero, List.set_cons_succ, i64_w, i32_w]; rfl)
                        refine pure_ (i := 6) (N := some 167) (v := undef) (a' := ?_) bN52_ rfl rfl (any_of HT_.out (by kernel_rfl)) (fun _ _ _ h => h) (Or.inr ⟨by rfl, rfl⟩) ?_ ?_; rotate_left; (simp only [Act.put, List.setIfInBounds_toArray, List.set_cons_zero, List.set_cons_succ, i64_w, i32_w]; rfl)
                        refine pure_ (i := 7) (N := some 168) (v := undef) (a' := ?_) bN53_ rfl rfl (any_of HT_.out (by kernel_rfl)) (fun _ _ _ h => h) (Or.inr ⟨by rfl, rfl⟩) ?_ ?_; rotate_left; (simp only [Act.put, List.setIfInBounds_toArray, List.set_cons_zero, List.set_cons_succ, i64_w, i32_w]; rfl)
                        refine pure_ (i := 8) (N := some 169) (v := undef) (a' := ?_) bN54_ rfl rfl (any_of HT_.out (by kernel_rfl)) (fun _ _ _ h => h) (Or.inr ⟨by rfl, rfl⟩) ?_ ?_; rotate_left; (simp only [Act.put, List.setIfInBounds_toArray, List.set_cons_zero, List.set_cons_succ, i64_w, i32_w]; rfl)
                        refine pure_ (i := 9) (N := some 170) (v := undef) (a' := ?_) bN59_ rfl rfl (any_of HT_.out (by kernel_rfl)) (fun _ _ _ h => h) (Or.inr ⟨by rfl, rfl⟩) ?_ ?_; rotate_left; (simp only [Act.put, List.setIfInBounds_toArray, List.set_cons_zero, List.set_cons_succ, i64_w, i32_w]; rfl)
                        refine pure_ (i := 10) (N := some 171) (v := undef) (a' := ?_) bN60_ rfl rfl (any_of HT_.out (by kernel_rfl)) (fun _ _ _ h => h) (Or.inr ⟨by rfl, rfl⟩) ?_ ?_; rotate_left; (simp only [Act.put, List.setIfInBounds_toArray, List.set_cons_zero, List.set_cons_succ, i64_w, i32_w]; rfl)
                        refine pure_ (i := 11) (N := some 172) (v := undef) (a' := ?_) bN61_ rfl rfl (any_of HT_.out (by kernel_rfl)) (fun _ _ _ h => h) (Or.inr ⟨by rfl, rfl⟩) ?_ ?_; rotate_left; (simp only [Act.put, List.setIfInBounds_toArray, List.set_cons_zero, List.set_cons_succ, i64_w, i32_w]; rfl)
                        refine pure_ (i := 12) (N := some 173) (v := undef) (a' := ?_) bN35_ rfl rfl (any_of HT_.out (by kernel_rfl)) (fun _ _ _ h => h) (Or.inr ⟨by rfl, rfl⟩) ?_ ?_; rotate_left; (simp only [Act.put, List.setIfInBounds_toArray, List.set_cons_zero, List.set_cons_succ, i64_w, i32_w]; rfl)
                        refine pure_ (i := 13) (N := some 174) (v := undef) (a' := ?_) bN32_ rfl rfl (any_of HT_.out (by kernel_rfl)) (fun _ _ _ h => h) (Or.inr ⟨by rfl, rfl⟩) ?_ ?_; rotate_left; (simp only [Act.put, List.setIfInBounds_toArray, List.set_cons_zero, List.set_cons_succ, i64_w, i32_w]; rfl)
                        refine pure_ (i := 14) (N := some 175) (v := undef) (a' := ?_) bN37_ rfl rfl (any_of HT_.out (by kernel_rfl)) (fun _ _ _ h => h) (Or.inr ⟨by rfl, rfl⟩) ?_ ?_; rotate_left; (simp only [Act.put, List.setIfInBounds_toArray, List.set_cons_zero, List.set_cons_succ, i64_w, i32_w]; rfl)
                        refine pure_ (i := 15) (N := some 176) (v := undef) (a' := ?_) bN38_ rfl rfl (any_of HT_.out (by kernel_rfl)) (fun _ _ _ h => h) (Or.inr ⟨by rfl, rfl⟩) ?_ ?_; rotate_left; (simp only [Act.put, List.setIfInBounds_toArray, List.set_cons_zero, List.set_cons_succ, i64_w, i32_w]; rfl)
                        refine pure_ (i := 16) (N := some 177) (v := ?_) (a' := ?_) bN39_ rfl rfl (any_of HT_.out (by kernel_rfl)) (fun _ _ _ h => h) (Or.inl ⟨by rfl, ?_⟩) ?_ ?_; rotate_left; (intro w'; go_simp; with_reducible rfl); rotate_left; (simp only [Act.put, List.setIfInBounds_toArray, List.set_cons_zero, List.set_cons_succ, i64_w, i32_w]; rfl)
                        refine done_ (done_of HT_.out (by kernel_rfl)) ?_
                        try go_wp2
                        go_roundg k6
                        case measure => have := HK1.out; have := HK2.out; have := HK3.out; have := HJ23.out; have := HK5.out; have := HK6.out; omega
                        case rel => exact ⟨(wrap64 (x19_6 + 1)), (by first | rfl | (simp; done) | (simp [*]; done)), H', ⟨by have := HK1.out; have := HK2.out; have := HK3.out; have := HJ23.out; have := HK5.out; have := HK6.out; omega⟩, ⟨by (with_reducible repeat (first | apply Kd.S_alloc | apply Kd.S_drewN | apply Kd.S_drew)); exact HO_10.out⟩, ⟨bx_ BK117⟩, ⟨bx_ BK118⟩, ⟨hx_ HB⟩⟩
                      ·rw [if_neg c127] at H
                       exact absurd H (by simp)
                     ·rw [if_neg c126] at H
                      exact absurd H (by simp)
                    ·rw [if_neg c124] at H
                     exact absurd H (by simp)
                   ·rw [if_neg c123] at H
                    exact absurd H (by simp)
                  ·rw [if_neg c122] at H
                   have c122b0 : decide (x19_6 < x18_5) = false := decide_eq_false c122
                   clear c122
                   have H' := am_ H
                   clear H
                   go_wp2
                   go_roundg k6
                   case measure => have := HK1.out; have := HK2.out; have := HK3.out; have := HJ23.out; have := HK5.out; have := HK6.out; omega
                   case rel => exact ⟨(wrap64 (x18_5 + 1)), (by first | rfl | (simp; done) | (simp [*]; done)), H', ⟨by have := HK1.out; have := HK2.out; have := HK3.out; have := HJ23.out; have := HK5.out; have := HK6.out; omega⟩, ⟨by (with_reducible repeat (first | apply Kd.S_alloc | apply Kd.S_drewN | apply Kd.S_drew)); exact HO_10.out⟩, ⟨bx_ BK117⟩, ⟨bx_ BK118⟩, ⟨hx_ HB⟩⟩
               ·rw [if_neg c121] at H
                have c121b0 : decide (x18_5 < (l0_2.length : Int)) = false := decide_eq_false c121
                clear c121
                obtain rfl := Option.some.inj H
                go_wp2
                go_ret
                exact ⟨by first | rfl | (simp [errW_none, errW_some] <;> rfl) | (simp [*, errW_none, errW_some] <;> rfl), hx_ HB⟩
 ·replace c4 := Bool.eq_false_iff.mpr c4
  subst c4
  have H1 : (some t119) = some r := by rw [if_neg (show ¬ (false = true) by decide)] at H; exact H
  clear H
  have H := H1
  clear H1
  obtain rfl := Option.some.inj H
  go_enter Try.func5, Try.ntmps5
  go_wp2_with (first | ((with_reducible refine gate_dst (N := 1) rfl ?_); (try (refine gate_guard (by rfl) ?_; dsimp only)); refine box_event ?hg (N := 1) ?hd (cs := #[.slice A0_0 l0_0.length c0_0, .slice A0_1 l0_1.length c0_1, .slice A0_2 l0_2.length c0_2, .slice A0_3 l0_3.length c0_3, .int .u64 a0_4]) (t := 38) ?hr ?_; (case hd => rfl); (case hg => rfl); (case hr => first | (go_simp; done) | (go_simp; rfl)); intro gb117 hg w152 hbox hb; have n0_ := am_ (below_step (hx_ HB) hb); have n1_ := am_ (hbox); have n2_ := am_ ((by rw [hg]; exact (below_size (hx_ HB)) : w.heap.size ≤ gb117)); have n3_ := am_ ((by rw [hg]; exact (below_size (hx_ HB)) : w.heap.size ≤ gb117)); clear HB; have HB := n0_; have BK117 := n1_; have GW117 := n2_; have GE117 := n3_; clear n0_ n1_ n2_ n3_; clear hb hbox hg; have hcz153_0 : w152.cell? ⟨gb117, 0, none⟩ = some (.slice A0_0 l0_0.length c0_0) := (blk_cell BK117.out 0).trans rfl; have hcz153_1 : w152.cell? ⟨gb117, 1, none⟩ = some (.slice A0_1 l0_1.length c0_1) := (blk_cell BK117.out 1).trans rfl; have hcz153_2 : w152.cell? ⟨gb117, 2, none⟩ = some (.slice A0_2 l0_2.length c0_2) := (blk_cell BK117.out 2).trans rfl; have hcz153_3 : w152.cell? ⟨gb117, 3, none⟩ = some (.slice A0_3 l0_3.length c0_3) := (blk_cell BK117.out 3).trans rfl; have hcz153_4 : w152.cell? ⟨gb117, 4, none⟩ = some (.int .u64 a0_4) := (blk_cell BK117.out 4).trans rfl; have hfz153_0 := blk_frozen BK117.out 0; have hfz153_1 := blk_frozen BK117.out 1; have hfz153_2 := blk_frozen BK117.out 2; have hfz153_3 := blk_frozen BK117.out 3; have hfz153_4 := blk_frozen BK117.out 4) | ((with_reducible refine gate_dst (N := 3) rfl ?_); (try (refine gate_guard (by rfl) ?_; dsimp only)); refine box_event ?hg (N := 3) ?hd (cs := #[.slice none 0 0, .slice none 0 0]) (t := 35) ?hr ?_; (case hd => rfl); (case hg => rfl); (case hr => first | (go_simp; done) | (go_simp; rfl)); intro gb118 hg w154 hbox hb; have n0_ := am_ (blk_below (g := gb117) (o := .cells #[.slice A0_0 l0_0.length c0_0, .slice A0_1 l0_1.length c0_1, .slice A0_2 l0_2.length c0_2, .slice A0_3 l0_3.length c0_3, .int .u64 a0_4] 38 (0, 0)) (bx_ BK117) hb); have n1_ := am_ (below_step (hx_ HB) hb); have n2_ := am_ (hbox); have n3_ := am_ ((by rw [hg]; exact (below_size (hx_ HB)) : w.heap.size ≤ gb118)); have n4_ := am_ ((by rw [hg]; exact (below_size (hx_ HB)) : w.heap.size ≤ gb118)); have n5_ := am_ ((by rw [hg]; exact Nat.ne_of_lt (blk_lt (g := gb117) (o := .cells #[.slice A0_0 l0_0.length c0_0, .slice A0_1 l0_1.length c0_1, .slice A0_2 l0_2.length c0_2, .slice A0_3 l0_3.length c0_3, .int .u64 a0_4] 38 (0, 0)) (bx_ BK117)) : gb117 ≠ gb118)); have n6_ := am_ ((by rw [hg]; exact Nat.ne_of_gt (blk_lt (g := gb117) (o := .cells #[.slice A0_0 l0_0.length c0_0, .slice A0_1 l0_1.length c0_1, .slice A0_2 l0_2.length c0_2, .slice A0_3 l0_3.length c0_3, .int .u64 a0_4] 38 (0, 0)) (bx_ BK117)) : gb118 ≠ gb117)); clear BK117; clear HB; have BK117 := n0_; have HB := n1_; have BK118 := n2_; have GW118 := n3_; have GE118 := n4_; have NB117_118 := n5_; have NB118_117 := n6_; clear n0_ n1_ n2_ n3_ n4_ n5_ n6_; clear hb hbox hg; have hnb155 := NB118_117.out; have hnc155 := NB117_118.out; have hcz156_0 : w154.cell? ⟨gb118, 0, none⟩ = some (.slice none 0 0) := (blk_cell BK118.out 0).trans rfl; have hcz156_1 : w154.cell? ⟨gb118, 1, none⟩ = some (.slice none 0 0) := (blk_cell BK118.out 1).trans rfl; have hfz156_0 := blk_frozen BK118.out 0; have hfz156_1 := blk_frozen BK118.out 1; have hcz157_0 : w154.cell? ⟨gb117, 0, none⟩ = some (.slice A0_0 l0_0.length c0_0) := (blk_cell BK117.out 0).trans rfl; have hcz157_1 : w154.cell? ⟨gb117, 1, none⟩ = some (.slice A0_1 l0_1.length c0_1) := (blk_cell BK117.out 1).trans rfl; have hcz157_2 : w154.cell? ⟨gb117, 2, none⟩ = some (.slice A0_2 l0_2.length c0_2) := (blk_cell BK117.out 2).trans rfl; have hcz157_3 : w154.cell? ⟨gb117, 3, none⟩ = some (.slice A0_3 l0_3.length c0_3) := (blk_cell BK117.out 3).trans rfl; have hcz157_4 : w154.cell? ⟨gb117, 4, none⟩ = some (.int .u64 a0_4) := (blk_cell BK117.out 4).trans rfl; have hfz157_0 := blk_frozen BK117.out 0; have hfz157_1 := blk_frozen BK117.out 1; have hfz157_2 := blk_frozen BK117.out 2; have hfz157_3 := blk_frozen BK117.out 3; have hfz157_4 := blk_frozen BK117.out 4) | ((with_reducible refine gate_callee (f := 8) rfl ?_); refine goesL_ (some 30) rfl rfl Try.func8 (by kernel_rfl) rfl #[] rfl (by (try simp only [List.map_toArray, List.map_cons, List.map_nil]); first | done | rfl | (simp only [List.length_drop, List.length_take]; rfl)) ?_; (with_reducible refine (ferrulelaw07_shown.calls  t119 _ A2.out).mono ?_); rintro e w158 ⟨rfl, hb⟩; refine ⟨_, rfl, ?_⟩; have n0_ := am_ (blk_below (g := gb117) (o := .cells #[.slice A0_0 l0_0.length c0_0, .slice A0_1 l0_1.length c0_1, .slice A0_2 l0_2.length c0_2, .slice A0_3 l0_3.length c0_3, .int .u64 a0_4] 38 (0, 0)) (by (with_reducible repeat (first | refine blk_drewN ?_ _ | refine blk_drew ?_ | refine blk_alloc ?_ _)); refine blk_far ?_ NB117_118.out _; (with_reducible repeat (first | refine blk_drewN ?_ _ | refine blk_drew ?_ | refine blk_alloc ?_ _)); refine blk_far ?_ NB117_118.out _; (with_reducible repeat (first | refine blk_drewN ?_ _ | refine blk_drew ?_ | refine blk_alloc ?_ _)); exact BK117.out) hb); have n1_ := am_ (blk_below (g := gb118) (o := .cells #[.slice A0_0 l0_0.length c0_0, .slice A0_1 l0_1.length c0_1] 35 (0, 0)) (by (with_reducible repeat (first | refine blk_drewN ?_ _ | refine blk_drew ?_ | refine blk_alloc ?_ _)); refine blk_put (cs := #[.slice A0_0 l0_0.length c0_0, .slice none 0 0]) ?_ 1 _ rfl; (with_reducible repeat (first | refine blk_drewN ?_ _ | refine blk_drew ?_ | refine blk_alloc ?_ _)); refine blk_put (cs := #[.slice none 0 0, .slice none 0 0]) ?_ 0 _ rfl; (with_reducible repeat (first | refine blk_drewN ?_ _ | refine blk_drew ?_ | refine blk_alloc ?_ _)); exact BK118.out) hb); have n2_ := am_ (below_step (hx_ HB) hb); clear BK117; clear BK118; clear HB; have BK117 := n0_; have BK118 := n1_; have HB := n2_; clear n0_ n1_ n2_; (try clear hb); (try clear hb2); (try clear hk); (try clear hi); have hcz159_0 : w158.cell? ⟨gb118, 0, none⟩ = some (.slice A0_0 l0_0.length c0_0) := (blk_cell BK118.out 0).trans rfl; have hcz159_1 : w158.cell? ⟨gb118, 1, none⟩ = some (.slice A0_1 l0_1.length c0_1) := (blk_cell BK118.out 1).trans rfl; have hfz159_0 := blk_frozen BK118.out 0; have hfz159_1 := blk_frozen BK118.out 1) | ((with_reducible refine gate_callee (f := 11) rfl ?_); refine goesL_ (some 32) rfl rfl Try.func11 (by kernel_rfl) rfl #[.agg #[.slice A0_0 l0_0.length c0_0, .slice A0_1 l0_1.length c0_1]] rfl (by (try simp only [List.map_toArray, List.map_cons, List.map_nil]); first | done | rfl | (simp only [List.length_drop, List.length_take]; rfl)) ?_; (with_reducible refine (ferruleref06_May.calls k _ _ l0_0 _ _ l0_1 false _ ?side1 ?side2 ?side3 ?side4 A3.out).mono ?_); (case side1 => repeat (first | exact (Kd.C_below HR0_0.out HB.out) | (with_reducible refine Kd.C_alloc ?_ _) | (with_reducible refine Kd.C_drewN ?_ _) | (with_reducible refine Kd.C_drew ?_))); (case side2 => exact HC0_0.out); (case side3 => repeat (first | exact (Kd.C_below HR0_1.out HB.out) | (with_reducible refine Kd.C_alloc ?_ _) | (with_reducible refine Kd.C_drewN ?_ _) | (with_reducible refine Kd.C_drew ?_))); (case side4 => exact HC0_1.out); rintro e w160 ⟨rfl, hb⟩; refine ⟨_, rfl, ?_⟩; have n0_ := am_ (blk_below (g := gb117) (o := .cells #[.slice A0_0 l0_0.length c0_0, .slice A0_1 l0_1.length c0_1, .slice A0_2 l0_2.length c0_2, .slice A0_3 l0_3.length c0_3, .int .u64 a0_4] 38 (0, 0)) (bx_ BK117) hb); have n1_ := am_ (blk_below (g := gb118) (o := .cells #[.slice A0_0 l0_0.length c0_0, .slice A0_1 l0_1.length c0_1] 35 (0, 0)) (bx_ BK118) hb); have n2_ := am_ (below_step (hx_ HB) hb); clear BK117; clear BK118; clear HB; have BK117 := n0_; have BK118 := n1_; have HB := n2_; clear n0_ n1_ n2_; (try clear hb); (try clear hb2); (try clear hk); (try clear hi)))
  go_ret
  exact ⟨by first | rfl | (simp [errW_none, errW_some] <;> rfl) | (simp [*, errW_none, errW_some] <;> rfl), hx_ HB⟩

end Go.Proofs.Ytbjeoaklpcbocaa.Pr
