/- What the program's functions compute, and that they compute it: printed out of the translation by a program of this session's (px.py, over the kit's printer). Conditions: none. -/
import Derived.Test.YtbejichfgednhaaPr0
import Derived.Test.YtbejichfgednhaaPr4
import Derived.Test.YtbejichfgednhaaHandAt
import Derived.Test.YtbejichfgednhaaHandOwn
namespace Go.Proofs.Ytbejichfgednhaa.Pr
open Go.RowKit Go.Proofs.YtbejichfgednhaaW.PrintWords Go.Proofs.YtbejichfgednhaaW.PrintLast Go.Proofs.YtbejichfgednhaaW.PrintMore
attribute [local go_sem] max2_int min2_int max_two min_two max_three min_three max_four min_four   -- for this text's walks alone
set_option linter.unusedVariables false
set_option linter.unusedSimpArgs false

/-! ### rlog_Add: function 14 -/
def rlog_Add.j0 : Nat → Int → Bool → Int → Int → ByteArray → List (S36) → Int → ByteArray → Option (Int × Int × ByteArray × (List (S36)) × Int)
  | 0, _, _, _, _, _, _, _, _ => none
  | k + 1, x7, x13, x109000, x109001, x109002, x109003, x110000, x110001 => if x13 = true then (some (0, 0, (⟨#[]⟩ : ByteArray), ([] : List (S36)), 5)) else (if x110000 < x7 then (some (0, 0, (⟨#[]⟩ : ByteArray), ([] : List (S36)), 9)) else ((rlog_own.f x109000 x109001 x109002 x109003 (x109003.length : Int)).bind fun t113 => ((some (([(⟨x110000, x110001⟩ : S36)] : List (S36)) : List (S36))).bind fun y116 => (if t113.length + y116.length < 5864062014805 then ((rlog_with.f x109000 x109001 x109002 x109003 (t113 ++ y116)).bind fun bt122 => (some (bt122.1, bt122.2.1, bt122.2.2.1, bt122.2.2.2, 0))) else (none)))))
def rlog_Add.f (k : Nat) (a0_0 : Int) (a0_1 : Int) (a0_2 : ByteArray) (l0_3 : List (S36)) (a1_0 : Int) (a1_1 : ByteArray) : Option (Int × Int × ByteArray × (List (S36)) × Int) := (rlog_Last.f a0_0 a0_1 a0_2 l0_3).bind fun bt111 => (if (l0_3.length : Int) ≥ 1024 then (rlog_Add.j0 k bt111.2 true a0_0 a0_1 a0_2 l0_3 a1_0 a1_1) else (rlog_Add.j0 k bt111.2 (decide (bt111.1 ≥ 1099511627776)) a0_0 a0_1 a0_2 l0_3 a1_0 a1_1))
theorem rlog_Add.mono_l : ∀ k, (∀ y0 y1 y2 y3 y4 y5 y6 y7, LeO (rlog_Add.j0 k y0 y1 y2 y3 y4 y5 y6 y7) (rlog_Add.j0 (k + 1) y0 y1 y2 y3 y4 y5 y6 y7))
  | 0 => fun _ _ _ _ _ _ _ _ r h => by simp [rlog_Add.j0] at h
  | k + 1 => by
    have ih0 := rlog_Add.mono_l k
    · intro y0 y1 y2 y3 y4 y5 y6 y7
      unfold rlog_Add.j0
      repeat' first
      | (with_reducible exact ih0 _ _ _ _ _ _ _ _)
      | (with_reducible exact LeO.refl _)
      | (with_reducible exact LeO.none _)
      | (with_reducible refine LeO.ite ?_ ?_)
      | (with_reducible refine LeO.bind ?_ (fun _ => ?_))
      | exact ih0 _ _ _ _ _ _ _ _
      | exact LeO.none _
      | refine LeO.ite ?_ ?_
      | refine LeO.bind ?_ (fun _ => ?_)
theorem rlog_Add.mono : ∀ a0 a1 a2 a3 a4 a5 k, LeO (rlog_Add.f k a0 a1 a2 a3 a4 a5) (rlog_Add.f (k + 1) a0 a1 a2 a3 a4 a5) := by
  intro a0 a1 a2 a3 a4 a5 k
  have ih0 := rlog_Add.mono_l k
  unfold rlog_Add.f
  repeat' first
      | (with_reducible exact ih0 _ _ _ _ _ _ _ _)
      | (with_reducible exact LeO.refl _)
      | (with_reducible exact LeO.none _)
      | (with_reducible refine LeO.ite ?_ ?_)
      | (with_reducible refine LeO.bind ?_ (fun _ => ?_))
      | exact ih0 _ _ _ _ _ _ _ _
      | exact LeO.none _
      | refine LeO.ite ?_ ?_
      | refine LeO.bind ?_ (fun _ => ?_)
def rlog_Add.T6 : Bool × List (List Nat × List Nat) := (true, [([], []), ([], []), ([], []), ([2], [2]), ([3], [3]), ([1, 4], [1, 4]), ([], []), ([6], [6]), ([5, 7, 5], [5, 7]), ([0, 8, 8], [0, 8]), ([9, 9, 0, 1, 2, 3, 4, 5, 6, 7, 8, 9], [9]), ([10, 0, 1, 2, 3, 4, 5, 6, 7, 8, 9, 10], [])])
def rlog_Add.B6 : List Nat := [0, 0, 0, 4, 12, 30, 0, 64, 254, 511, 1023, 2047]
theorem rlog_Add.tab6 : rtab .any (opsOf Try.f14 6) = rlog_Add.T6 := by kernel_rfl
theorem rlog_Add.bits6 : waitsOk rlog_Add.T6.2 rlog_Add.B6 = true := by kernel_rfl
set_option maxHeartbeats 8000000 in
set_option maxRecDepth 100000 in
theorem rlog_Add.calls (k : Nat) (a0_0 : Int) (a0_1 : Int) (a0_2 : ByteArray) (A0_3 : Option Addr) (c0_3 : Nat) (l0_3 : List (S36)) (a1_0 : Int) (a1_1 : ByteArray) (r1 : Int) (r2 : Int) (r3 : ByteArray) (r4 : List (S36)) (r5 : Int) (w : World) (hr0_3 : Kd.C k36 w A0_3 l0_3.length l0_3) (hc0_3 : l0_3.length ≤ c0_3) (h : rlog_Add.f k a0_0 a0_1 a0_2 l0_3 a1_0 a1_1 = some (r1, r2, r3, r4, r5)) :
    Calls Try.prog 14 #[.agg #[.int .u64 a0_0, .int .u64 a0_1, .string a0_2, .slice A0_3 l0_3.length c0_3], .agg #[.int .u64 a1_0, .string a1_1]] w fun e w' => ∃ v3_ : Value, e = .returned (.tuple #[.agg #[.int .u64 r1, .int .u64 r2, .string r3, v3_], .int .i64 r5]) ∧ Kd.R k36 36 w' w.heap.size (fun _ => True) v3_ r4 ∧ Below w.heap.size w w' := by
  have hu25 := Try.underlying25
  have hu36 := Try.underlying36
  have HR0_3 := Aside0.mk hr0_3
  have HC0_3 := Aside0.mk hc0_3
  clear hr0_3 hc0_3
  have HB := Aside0.mk (Below.refl w.heap.size w)
  have H : ((rlog_Last.f a0_0 a0_1 a0_2 l0_3).bind fun bt111 => (if (l0_3.length : Int) ≥ 1024 then (rlog_Add.j0 k bt111.2 true a0_0 a0_1 a0_2 l0_3 a1_0 a1_1) else (rlog_Add.j0 k bt111.2 (decide (bt111.1 ≥ 1099511627776)) a0_0 a0_1 a0_2 l0_3 a1_0 a1_1))) = some (r1, r2, r3, r4, r5) := h
  clear h
  replace H := Option.bind_eq_some_iff.mp H
  obtain ⟨⟨t111, t112⟩, A30, H⟩ := H
  replace H : (if (l0_3.length : Int) ≥ 1024 then (rlog_Add.j0 k t112 true a0_0 a0_1 a0_2 l0_3 a1_0 a1_1) else (rlog_Add.j0 k t112 (decide (t111 ≥ 1099511627776)) a0_0 a0_1 a0_2 l0_3 a1_0 a1_1)) = some (r1, r2, r3, r4, r5) := H
  have A3 := Aside0.mk A30
  clear A30
  have HC4 := Aside0.mk H
  clear H
  go_enter Try.func14, Try.ntmps14
  go_upto_region 2 with (first | ((with_reducible refine gate_dst (N := 2) rfl ?_); refine box_event ?hg (N := 2) ?hd (cs := #[.int .u64 a0_0, .int .u64 a0_1, .string a0_2, .slice A0_3 l0_3.length c0_3]) (t := 25) ?hr ?_; (case hd => rfl); (case hg => rfl); (case hr => first | (go_simp; done) | (go_simp; rfl)); intro gb108 hg w5 hbox hb; have n0_ := Aside0.mk (below_step (by repeat (first | (with_reducible first | exact HB.out | apply below_alloc | apply pw_below_drewN | apply below_drew1) | exact HB.out)) hb); have n1_ := Aside0.mk (hbox); have n2_ := Aside0.mk ((by rw [hg]; exact (below_size (by repeat (first | (with_reducible first | exact HB.out | apply below_alloc | apply pw_below_drewN | apply below_drew1) | exact HB.out))) : w.heap.size ≤ gb108)); have n3_ := Aside0.mk ((by rw [hg]; exact (below_size (by repeat (first | (with_reducible first | exact HB.out | apply below_alloc | apply pw_below_drewN | apply below_drew1) | exact HB.out))) : w.heap.size ≤ gb108)); clear HB; have HB := n0_; have BK108 := n1_; have GW108 := n2_; have GE108 := n3_; clear n0_ n1_ n2_ n3_; clear hb hbox hg) | ((with_reducible refine gate_dst (N := 3) rfl ?_); refine box_event ?hg (N := 3) ?hd (cs := #[.int .u64 a1_0, .string a1_1]) (t := 36) ?hr ?_; (case hd => rfl); (case hg => rfl); (case hr => first | (go_simp; done) | (go_simp; rfl)); intro gb109 hg w6 hbox hb; have n0_ := Aside0.mk (blk_below (g := gb108) (o := .cells #[.int .u64 a0_0, .int .u64 a0_1, .string a0_2, .slice A0_3 l0_3.length c0_3] 25 (0, 0)) (by (with_reducible repeat (first | refine blk_drewN ?_ _ | refine blk_drew ?_ | refine blk_alloc ?_ _)); exact BK108.out) hb); have n1_ := Aside0.mk (below_step (by repeat (first | (with_reducible first | exact HB.out | apply below_alloc | apply pw_below_drewN | apply below_drew1 | refine below_set ?_ GE108.out) | exact HB.out)) hb); have n2_ := Aside0.mk (hbox); have n3_ := Aside0.mk ((by rw [hg]; exact (below_size (by repeat (first | (with_reducible first | exact HB.out | apply below_alloc | apply pw_below_drewN | apply below_drew1 | refine below_set ?_ GE108.out) | exact HB.out))) : w.heap.size ≤ gb109)); have n4_ := Aside0.mk ((by rw [hg]; exact (below_size (by repeat (first | (with_reducible first | exact HB.out | apply below_alloc | apply pw_below_drewN | apply below_drew1 | refine below_set ?_ GE108.out) | exact HB.out))) : w.heap.size ≤ gb109)); have n5_ := Aside0.mk ((by rw [hg]; exact Nat.ne_of_lt (blk_lt (g := gb108) (o := .cells #[.int .u64 a0_0, .int .u64 a0_1, .string a0_2, .slice A0_3 l0_3.length c0_3] 25 (0, 0)) (by (with_reducible repeat (first | refine blk_drewN ?_ _ | refine blk_drew ?_ | refine blk_alloc ?_ _)); exact BK108.out)) : gb108 ≠ gb109)); have n6_ := Aside0.mk ((by rw [hg]; exact Nat.ne_of_gt (blk_lt (g := gb108) (o := .cells #[.int .u64 a0_0, .int .u64 a0_1, .string a0_2, .slice A0_3 l0_3.length c0_3] 25 (0, 0)) (by (with_reducible repeat (first | refine blk_drewN ?_ _ | refine blk_drew ?_ | refine blk_alloc ?_ _)); exact BK108.out)) : gb109 ≠ gb108)); clear BK108; clear HB; have BK108 := n0_; have HB := n1_; have BK109 := n2_; have GW109 := n3_; have GE109 := n4_; have NB108_109 := n5_; have NB109_108 := n6_; clear n0_ n1_ n2_ n3_ n4_ n5_ n6_; clear hb hbox hg) | ((with_reducible refine gate_dst (N := 4) rfl ?_); refine box_event ?hg (N := 4) ?hd (cs := #[.int .u64 0, .int .u64 0, .string (⟨#[]⟩ : ByteArray), .slice none 0 0]) (t := 25) ?hr ?_; (case hd => rfl); (case hg => rfl); (case hr => first | (go_simp; done) | (go_simp; rfl)); intro gb110 hg w7 hbox hb; have n0_ := Aside0.mk (blk_below (g := gb108) (o := .cells #[.int .u64 a0_0, .int .u64 a0_1, .string a0_2, .slice A0_3 l0_3.length c0_3] 25 (0, 0)) (by (with_reducible repeat (first | refine blk_drewN ?_ _ | refine blk_drew ?_ | refine blk_alloc ?_ _)); exact BK108.out) hb); have n1_ := Aside0.mk (blk_below (g := gb109) (o := .cells #[.int .u64 a1_0, .string a1_1] 36 (0, 0)) (by (with_reducible repeat (first | refine blk_drewN ?_ _ | refine blk_drew ?_ | refine blk_alloc ?_ _)); exact BK109.out) hb); have n2_ := Aside0.mk (below_step (by repeat (first | (with_reducible first | exact HB.out | apply below_alloc | apply pw_below_drewN | apply below_drew1 | refine below_set ?_ GE108.out | refine below_set ?_ GE109.out) | exact HB.out)) hb); have n3_ := Aside0.mk (hbox); have n4_ := Aside0.mk ((by rw [hg]; exact (below_size (by repeat (first | (with_reducible first | exact HB.out | apply below_alloc | apply pw_below_drewN | apply below_drew1 | refine below_set ?_ GE108.out | refine below_set ?_ GE109.out) | exact HB.out))) : w.heap.size ≤ gb110)); have n5_ := Aside0.mk ((by rw [hg]; exact (below_size (by repeat (first | (with_reducible first | exact HB.out | apply below_alloc | apply pw_below_drewN | apply below_drew1 | refine below_set ?_ GE108.out | refine below_set ?_ GE109.out) | exact HB.out))) : w.heap.size ≤ gb110)); have n6_ := Aside0.mk ((by rw [hg]; exact Nat.ne_of_lt (blk_lt (g := gb108) (o := .cells #[.int .u64 a0_0, .int .u64 a0_1, .string a0_2, .slice A0_3 l0_3.length c0_3] 25 (0, 0)) (by (with_reducible repeat (first | refine blk_drewN ?_ _ | refine blk_drew ?_ | refine blk_alloc ?_ _)); exact BK108.out)) : gb108 ≠ gb110)); have n7_ := Aside0.mk ((by rw [hg]; exact Nat.ne_of_gt (blk_lt (g := gb108) (o := .cells #[.int .u64 a0_0, .int .u64 a0_1, .string a0_2, .slice A0_3 l0_3.length c0_3] 25 (0, 0)) (by (with_reducible repeat (first | refine blk_drewN ?_ _ | refine blk_drew ?_ | refine blk_alloc ?_ _)); exact BK108.out)) : gb110 ≠ gb108)); have n8_ := Aside0.mk ((by rw [hg]; exact Nat.ne_of_lt (blk_lt (g := gb109) (o := .cells #[.int .u64 a1_0, .string a1_1] 36 (0, 0)) (by (with_reducible repeat (first | refine blk_drewN ?_ _ | refine blk_drew ?_ | refine blk_alloc ?_ _)); exact BK109.out)) : gb109 ≠ gb110)); have n9_ := Aside0.mk ((by rw [hg]; exact Nat.ne_of_gt (blk_lt (g := gb109) (o := .cells #[.int .u64 a1_0, .string a1_1] 36 (0, 0)) (by (with_reducible repeat (first | refine blk_drewN ?_ _ | refine blk_drew ?_ | refine blk_alloc ?_ _)); exact BK109.out)) : gb110 ≠ gb109)); clear BK108; clear BK109; clear HB; have BK108 := n0_; have BK109 := n1_; have HB := n2_; have BK110 := n3_; have GW110 := n4_; have GE110 := n5_; have NB108_110 := n6_; have NB110_108 := n7_; have NB109_110 := n8_; have NB110_109 := n9_; clear n0_ n1_ n2_ n3_ n4_ n5_ n6_ n7_ n8_ n9_; clear hb hbox hg; have hnb8 := NB108_109.out; have hnc8 := NB109_108.out; have hnb9 := NB108_110.out; have hnc9 := NB110_108.out; have hcz10_0 : w7.cell? ⟨gb108, 0, none⟩ = some (.int .u64 a0_0) := (blk_cell BK108.out 0).trans rfl; have hcz10_1 : w7.cell? ⟨gb108, 1, none⟩ = some (.int .u64 a0_1) := (blk_cell BK108.out 1).trans rfl; have hcz10_2 : w7.cell? ⟨gb108, 2, none⟩ = some (.string a0_2) := (blk_cell BK108.out 2).trans rfl; have hcz10_3 : w7.cell? ⟨gb108, 3, none⟩ = some (.slice A0_3 l0_3.length c0_3) := (blk_cell BK108.out 3).trans rfl; have hfz10_0 := blk_frozen BK108.out 0; have hfz10_1 := blk_frozen BK108.out 1; have hfz10_2 := blk_frozen BK108.out 2; have hfz10_3 := blk_frozen BK108.out 3) | ((with_reducible refine gate_callee (f := 24) rfl ?_); refine goesL_ (some 10) rfl rfl Try.func24 (by kernel_rfl) rfl #[.agg #[.int .u64 a0_0, .int .u64 a0_1, .string a0_2, .slice A0_3 l0_3.length c0_3]] rfl (by (try simp only [List.map_toArray, List.map_cons, List.map_nil]); first | done | rfl | (simp only [List.length_drop, List.length_take]; rfl)) ?_; (with_reducible refine (rlog_Last.calls a0_0 a0_1 a0_2 _ _ l0_3 t111 t112 _ ?side1 ?side2 A3.out).mono ?_); (case side1 => repeat (first | exact (Kd.C_below HR0_3.out HB.out) | (with_reducible refine Kd.C_alloc ?_ _) | (with_reducible refine Kd.C_drewN ?_ _) | (with_reducible refine Kd.C_drew ?_))); (case side2 => exact HC0_3.out); rintro e w11 ⟨rfl, hb⟩; refine ⟨_, rfl, ?_⟩; have n0_ := Aside0.mk (blk_below (g := gb108) (o := .cells #[.int .u64 a0_0, .int .u64 a0_1, .string a0_2, .slice A0_3 l0_3.length c0_3] 25 (0, 0)) (by (with_reducible repeat (first | refine blk_drewN ?_ _ | refine blk_drew ?_ | refine blk_alloc ?_ _)); exact BK108.out) hb); have n1_ := Aside0.mk (blk_below (g := gb109) (o := .cells #[.int .u64 a1_0, .string a1_1] 36 (0, 0)) (by (with_reducible repeat (first | refine blk_drewN ?_ _ | refine blk_drew ?_ | refine blk_alloc ?_ _)); exact BK109.out) hb); have n2_ := Aside0.mk (blk_below (g := gb110) (o := .cells #[.int .u64 0, .int .u64 0, .string (⟨#[]⟩ : ByteArray), .slice none 0 0] 25 (0, 0)) (by (with_reducible repeat (first | refine blk_drewN ?_ _ | refine blk_drew ?_ | refine blk_alloc ?_ _)); exact BK110.out) hb); have n3_ := Aside0.mk (below_step (by repeat (first | (with_reducible first | exact HB.out | apply below_alloc | apply pw_below_drewN | apply below_drew1 | refine below_set ?_ GE108.out | refine below_set ?_ GE109.out | refine below_set ?_ GE110.out) | exact HB.out)) hb); clear BK108; clear BK109; clear BK110; clear HB; have BK108 := n0_; have BK109 := n1_; have BK110 := n2_; have HB := n3_; clear n0_ n1_ n2_ n3_; (try clear hb); (try clear hb2); (try clear hk); (try clear hi)))
  (try simp only [Act.put, List.setIfInBounds_toArray, List.set_cons_zero, List.set_cons_succ])
  go_cut [13] (fun v13 wc => ∃ (kq : Nat) (x13_3 : Bool), v13 = .bool x13_3 ∧ Aside0 (rlog_Add.j0 kq t112 x13_3 a0_0 a0_1 a0_2 l0_3 a1_0 a1_1 = some (r1, r2, r3, r4, r5)) ∧ Aside0 (kq ≤ k) ∧ Aside0 (wc.heap[gb108]? = some (.cells #[.int .u64 a0_0, .int .u64 a0_1, .string a0_2, (.slice A0_3 l0_3.length c0_3)] 25 (0, 0))) ∧ Aside0 (wc.heap[gb109]? = some (.cells #[.int .u64 a1_0, .string a1_1] 36 (0, 0))) ∧ Aside0 (wc.heap[gb110]? = some (.cells #[.int .u64 0, .int .u64 0, .string (⟨#[]⟩ : ByteArray), (.slice none 0 0)] 25 (0, 0))) ∧ Aside0 (Below w.heap.size w wc))
  case first =>
    have H := HC4.out
    clear HC4
    by_cases c12 : (l0_3.length : Int) ≥ 1024
    · rw [if_pos c12] at H
      have c12b0 : decide (1024 ≤ (l0_3.length : Int)) = true := decide_eq_true c12
      have c12b1 : decide (1024 ≤ l0_3.length) = true := decide_eq_true (by omega)
      clear c12
      (first | rw [c12b0] | (simp only [i64_w, i32_w]; rw [c12b0]) | skip)
      have H' := Aside0.mk H
      clear H
      have hnb13 := NB108_109.out
      have hnc13 := NB109_108.out
      have hnb14 := NB108_110.out
      have hnc14 := NB110_108.out
      have hcz15_0 : w11.cell? ⟨gb108, 0, none⟩ = some (.int .u64 a0_0) := (blk_cell BK108.out 0).trans rfl
      have hcz15_1 : w11.cell? ⟨gb108, 1, none⟩ = some (.int .u64 a0_1) := (blk_cell BK108.out 1).trans rfl
      have hcz15_2 : w11.cell? ⟨gb108, 2, none⟩ = some (.string a0_2) := (blk_cell BK108.out 2).trans rfl
      have hcz15_3 : w11.cell? ⟨gb108, 3, none⟩ = some (.slice A0_3 l0_3.length c0_3) := (blk_cell BK108.out 3).trans rfl
      have hfz15_0 := blk_frozen BK108.out 0
      have hfz15_1 := blk_frozen BK108.out 1
      have hfz15_2 := blk_frozen BK108.out 2
      have hfz15_3 := blk_frozen BK108.out 3
      go_wp2
      go_meet
      case rel => exact ⟨_, (true), (by first | rfl | (simp; done) | (simp [*]; done)), H', ⟨by first | omega | exact Nat.le_refl _⟩, ⟨by (with_reducible repeat (first | refine blk_drewN ?_ _ | refine blk_drew ?_ | refine blk_alloc ?_ _)); exact BK108.out⟩, ⟨by (with_reducible repeat (first | refine blk_drewN ?_ _ | refine blk_drew ?_ | refine blk_alloc ?_ _)); exact BK109.out⟩, ⟨by (with_reducible repeat (first | refine blk_drewN ?_ _ | refine blk_drew ?_ | refine blk_alloc ?_ _)); exact BK110.out⟩, ⟨by repeat (first | (with_reducible first | exact HB.out | apply below_alloc | apply pw_below_drewN | apply below_drew1 | refine below_set ?_ GE108.out | refine below_set ?_ GE109.out | refine below_set ?_ GE110.out) | exact HB.out)⟩⟩
    · rw [if_neg c12] at H
      have c12b0 : decide (1024 ≤ (l0_3.length : Int)) = false := decide_eq_false c12
      have c12b1 : decide (1024 ≤ l0_3.length) = false := decide_eq_false (by omega)
      clear c12
      (first | rw [c12b0] | (simp only [i64_w, i32_w]; rw [c12b0]) | skip)
      have H' := Aside0.mk H
      clear H
      have hnb16 := NB108_109.out
      have hnc16 := NB109_108.out
      have hnb17 := NB108_110.out
      have hnc17 := NB110_108.out
      have hcz18_0 : w11.cell? ⟨gb108, 0, none⟩ = some (.int .u64 a0_0) := (blk_cell BK108.out 0).trans rfl
      have hcz18_1 : w11.cell? ⟨gb108, 1, none⟩ = some (.int .u64 a0_1) := (blk_cell BK108.out 1).trans rfl
      have hcz18_2 : w11.cell? ⟨gb108, 2, none⟩ = some (.string a0_2) := (blk_cell BK108.out 2).trans rfl
      have hcz18_3 : w11.cell? ⟨gb108, 3, none⟩ = some (.slice A0_3 l0_3.length c0_3) := (blk_cell BK108.out 3).trans rfl
      have hfz18_0 := blk_frozen BK108.out 0
      have hfz18_1 := blk_frozen BK108.out 1
      have hfz18_2 := blk_frozen BK108.out 2
      have hfz18_3 := blk_frozen BK108.out 3
      go_wp2
      go_meet
      case rel => exact ⟨_, (decide (t111 ≥ 1099511627776)), (by first | rfl | (simp; done) | (simp [*]; done)), H', ⟨by first | omega | exact Nat.le_refl _⟩, ⟨by (with_reducible repeat (first | refine blk_drewN ?_ _ | refine blk_drew ?_ | refine blk_alloc ?_ _)); exact BK108.out⟩, ⟨by (with_reducible repeat (first | refine blk_drewN ?_ _ | refine blk_drew ?_ | refine blk_alloc ?_ _)); exact BK109.out⟩, ⟨by (with_reducible repeat (first | refine blk_drewN ?_ _ | refine blk_drew ?_ | refine blk_alloc ?_ _)); exact BK110.out⟩, ⟨by repeat (first | (with_reducible first | exact HB.out | apply below_alloc | apply pw_below_drewN | apply below_drew1 | refine below_set ?_ GE108.out | refine below_set ?_ GE109.out | refine below_set ?_ GE110.out) | exact HB.out)⟩⟩
  case rest =>
    clear HC4
    try clear c1
    try clear c2
    try clear p2
    try clear c8
    try clear c9
    try clear c12
    try clear c12b0
    try clear c12b1
    try clear c13
    try clear c14
    try clear c16
    try clear c17
    try clear hcz10_0
    try clear hcz10_1
    try clear hcz10_2
    try clear hcz10_3
    try clear hcz15_0
    try clear hcz15_1
    try clear hcz15_2
    try clear hcz15_3
    try clear hcz18_0
    try clear hcz18_1
    try clear hcz18_2
    try clear hcz18_3
    try clear hfz10_0
    try clear hfz10_1
    try clear hfz10_2
    try clear hfz10_3
    try clear hfz15_0
    try clear hfz15_1
    try clear hfz15_2
    try clear hfz15_3
    try clear hfz18_0
    try clear hfz18_1
    try clear hfz18_2
    try clear hfz18_3
    obtain ⟨kq, x13_3, rfl, HA, HJ3, BK108, BK109, BK110, HB⟩ := hcut
    cases kq with
    | zero => exact absurd HA.out (by simp [rlog_Add.j0])
    | succ kj3 =>
      have H := HA.out
      clear HA
      simp only [rlog_Add.j0] at H
      by_cases c19 : x13_3 = true
      · subst c19
        have H1 : (some (0, 0, (⟨#[]⟩ : ByteArray), ([] : List (S36)), 5)) = some (r1, r2, r3, r4, r5) := by rw [if_pos rfl] at H; exact H
        clear H
        have H := H1
        clear H1
        simp only [Option.some.injEq, Prod.mk.injEq] at H
        obtain ⟨rfl, rfl, rfl, rfl, rfl⟩ := H
        have hnb20 := NB110_108.out
        have hnc20 := NB108_110.out
        have hnb21 := NB110_109.out
        have hnc21 := NB109_110.out
        have hcz22_0 : wc.cell? ⟨gb110, 0, none⟩ = some (.int .u64 0) := (blk_cell BK110.out 0).trans rfl
        have hcz22_1 : wc.cell? ⟨gb110, 1, none⟩ = some (.int .u64 0) := (blk_cell BK110.out 1).trans rfl
        have hcz22_2 : wc.cell? ⟨gb110, 2, none⟩ = some (.string (⟨#[]⟩ : ByteArray)) := (blk_cell BK110.out 2).trans rfl
        have hcz22_3 : wc.cell? ⟨gb110, 3, none⟩ = some (.slice none 0 0) := (blk_cell BK110.out 3).trans rfl
        have hfz22_0 := blk_frozen BK110.out 0
        have hfz22_1 := blk_frozen BK110.out 1
        have hfz22_2 := blk_frozen BK110.out 2
        have hfz22_3 := blk_frozen BK110.out 3
        go_wp2
        refine bodyPost_ret (results_ct rfl _ _ gb110 25 #[.int .u64 0, .int .u64 0, .string (⟨#[]⟩ : ByteArray), .slice none 0 0] (0, 0) _ rfl (by (with_reducible repeat (first | refine blk_drewN ?_ _ | refine blk_drew ?_ | refine blk_alloc ?_ _)); refine blk_put (cs := #[.int .u64 0, .int .u64 0, .string (⟨#[]⟩ : ByteArray), .slice none 0 0]) ?_ 3 _ rfl; (with_reducible repeat (first | refine blk_drewN ?_ _ | refine blk_drew ?_ | refine blk_alloc ?_ _)); refine blk_put (cs := #[.int .u64 0, .int .u64 0, .string (⟨#[]⟩ : ByteArray), .slice none 0 0]) ?_ 2 _ rfl; (with_reducible repeat (first | refine blk_drewN ?_ _ | refine blk_drew ?_ | refine blk_alloc ?_ _)); refine blk_put (cs := #[.int .u64 0, .int .u64 0, .string (⟨#[]⟩ : ByteArray), .slice none 0 0]) ?_ 1 _ rfl; (with_reducible repeat (first | refine blk_drewN ?_ _ | refine blk_drew ?_ | refine blk_alloc ?_ _)); refine blk_put (cs := #[.int .u64 0, .int .u64 0, .string (⟨#[]⟩ : ByteArray), .slice none 0 0]) ?_ 0 _ rfl; (with_reducible repeat (first | refine blk_drewN ?_ _ | refine blk_drew ?_ | refine blk_alloc ?_ _)); exact BK110.out) Try.underlying25 rfl (by kernel_rfl)) rfl ?_
        exact ⟨_, by first | rfl | (simp [errW_none, errW_some] <;> rfl) | (simp [*, errW_none, errW_some] <;> rfl), by first | exact Kd.R_nil _ _ _ _ _ | exact Kd.N_nil _ _ _ _ _ | exact Kd.V_nil _ _ _ _ _ | exact Kd.Q_nil _ _ _ _ _ | exact Kd.S_nil _ _ _ _ _, by repeat (first | (with_reducible first | exact HB.out | apply below_alloc | apply pw_below_drewN | apply below_drew1 | refine below_set ?_ GE108.out | refine below_set ?_ GE109.out | refine below_set ?_ GE110.out) | exact HB.out)⟩
      · replace c19 := Bool.eq_false_iff.mpr c19
        subst c19
        have H1 : (if a1_0 < t112 then (some (0, 0, (⟨#[]⟩ : ByteArray), ([] : List (S36)), 9)) else ((rlog_own.f a0_0 a0_1 a0_2 l0_3 (l0_3.length : Int)).bind fun t113 => ((some (([(⟨a1_0, a1_1⟩ : S36)] : List (S36)) : List (S36))).bind fun y116 => (if t113.length + y116.length < 5864062014805 then ((rlog_with.f a0_0 a0_1 a0_2 l0_3 (t113 ++ y116)).bind fun bt122 => (some (bt122.1, bt122.2.1, bt122.2.2.1, bt122.2.2.2, 0))) else (none))))) = some (r1, r2, r3, r4, r5) := by rw [if_neg (show ¬ (false = true) by decide)] at H; exact H
        clear H
        have H := H1
        clear H1
        by_cases c23 : a1_0 < t112
        · rw [if_pos c23] at H
          have c23b0 : decide (a1_0 < t112) = true := decide_eq_true c23
          clear c23
          simp only [Option.some.injEq, Prod.mk.injEq] at H
          obtain ⟨rfl, rfl, rfl, rfl, rfl⟩ := H
          have hnb24 := NB109_108.out
          have hnc24 := NB108_109.out
          have hnb25 := NB109_110.out
          have hnc25 := NB110_109.out
          have hcz26_0 : wc.cell? ⟨gb109, 0, none⟩ = some (.int .u64 a1_0) := (blk_cell BK109.out 0).trans rfl
          have hcz26_1 : wc.cell? ⟨gb109, 1, none⟩ = some (.string a1_1) := (blk_cell BK109.out 1).trans rfl
          have hfz26_0 := blk_frozen BK109.out 0
          have hfz26_1 := blk_frozen BK109.out 1
          have hnb27 := NB110_108.out
          have hnc27 := NB108_110.out
          have hcz28_0 : wc.cell? ⟨gb110, 0, none⟩ = some (.int .u64 0) := (blk_cell BK110.out 0).trans rfl
          have hcz28_1 : wc.cell? ⟨gb110, 1, none⟩ = some (.int .u64 0) := (blk_cell BK110.out 1).trans rfl
          have hcz28_2 : wc.cell? ⟨gb110, 2, none⟩ = some (.string (⟨#[]⟩ : ByteArray)) := (blk_cell BK110.out 2).trans rfl
          have hcz28_3 : wc.cell? ⟨gb110, 3, none⟩ = some (.slice none 0 0) := (blk_cell BK110.out 3).trans rfl
          have hfz28_0 := blk_frozen BK110.out 0
          have hfz28_1 := blk_frozen BK110.out 1
          have hfz28_2 := blk_frozen BK110.out 2
          have hfz28_3 := blk_frozen BK110.out 3
          go_wp2
          refine bodyPost_ret (results_ct rfl _ _ gb110 25 #[.int .u64 0, .int .u64 0, .string (⟨#[]⟩ : ByteArray), .slice none 0 0] (0, 0) _ rfl (by (with_reducible repeat (first | refine blk_drewN ?_ _ | refine blk_drew ?_ | refine blk_alloc ?_ _)); refine blk_put (cs := #[.int .u64 0, .int .u64 0, .string (⟨#[]⟩ : ByteArray), .slice none 0 0]) ?_ 3 _ rfl; (with_reducible repeat (first | refine blk_drewN ?_ _ | refine blk_drew ?_ | refine blk_alloc ?_ _)); refine blk_put (cs := #[.int .u64 0, .int .u64 0, .string (⟨#[]⟩ : ByteArray), .slice none 0 0]) ?_ 2 _ rfl; (with_reducible repeat (first | refine blk_drewN ?_ _ | refine blk_drew ?_ | refine blk_alloc ?_ _)); refine blk_put (cs := #[.int .u64 0, .int .u64 0, .string (⟨#[]⟩ : ByteArray), .slice none 0 0]) ?_ 1 _ rfl; (with_reducible repeat (first | refine blk_drewN ?_ _ | refine blk_drew ?_ | refine blk_alloc ?_ _)); refine blk_put (cs := #[.int .u64 0, .int .u64 0, .string (⟨#[]⟩ : ByteArray), .slice none 0 0]) ?_ 0 _ rfl; (with_reducible repeat (first | refine blk_drewN ?_ _ | refine blk_drew ?_ | refine blk_alloc ?_ _)); exact BK110.out) Try.underlying25 rfl (by kernel_rfl)) rfl ?_
          exact ⟨_, by first | rfl | (simp [errW_none, errW_some] <;> rfl) | (simp [*, errW_none, errW_some] <;> rfl), by first | exact Kd.R_nil _ _ _ _ _ | exact Kd.N_nil _ _ _ _ _ | exact Kd.V_nil _ _ _ _ _ | exact Kd.Q_nil _ _ _ _ _ | exact Kd.S_nil _ _ _ _ _, by repeat (first | (with_reducible first | exact HB.out | apply below_alloc | apply pw_below_drewN | apply below_drew1 | refine below_set ?_ GE108.out | refine below_set ?_ GE109.out | refine below_set ?_ GE110.out) | exact HB.out)⟩
        · rw [if_neg c23] at H
          have c23b0 : decide (a1_0 < t112) = false := decide_eq_false c23
          clear c23
          replace H := Option.bind_eq_some_iff.mp H
          obtain ⟨t113, A290, H⟩ := H
          replace H : ((some (([(⟨a1_0, a1_1⟩ : S36)] : List (S36)) : List (S36))).bind fun y116 => (if t113.length + y116.length < 5864062014805 then ((rlog_with.f a0_0 a0_1 a0_2 l0_3 (t113 ++ y116)).bind fun bt122 => (some (bt122.1, bt122.2.1, bt122.2.2.1, bt122.2.2.2, 0))) else (none))) = some (r1, r2, r3, r4, r5) := H
          have A29 := Aside0.mk A290
          clear A290
          obtain ⟨y116, hy116⟩ : ∃ y_ : List (S36), y_ = (([(⟨a1_0, a1_1⟩ : S36)] : List (S36))) := ⟨_, rfl⟩
          replace H : (if t113.length + y116.length < 5864062014805 then ((rlog_with.f a0_0 a0_1 a0_2 l0_3 (t113 ++ y116)).bind fun bt122 => (some (bt122.1, bt122.2.1, bt122.2.2.1, bt122.2.2.2, 0))) else (none)) = some (r1, r2, r3, r4, r5) := by first | (rw [hy116]; with_reducible exact H) | (have H2_ := (Option.bind_some _ _).symm.trans H; rw [hy116]; with_reducible exact H2_) | (have H2_ := (Option.bind_some _ _).symm.trans H; with_reducible exact H2_) | with_reducible exact H | (rw [hy116]; exact H) | exact H
          have Ny116 := Aside0.mk hy116
          clear hy116
          by_cases c30 : t113.length + y116.length < 5864062014805
          · rw [if_pos c30] at H
            have LMc30 := Aside0.mk c30
            clear c30
            obtain ⟨y119, hy119⟩ : ∃ y_ : List (S36), y_ = (t113 ++ y116) := ⟨_, rfl⟩
            replace H : ((rlog_with.f a0_0 a0_1 a0_2 l0_3 y119).bind fun bt122 => (some (bt122.1, bt122.2.1, bt122.2.2.1, bt122.2.2.2, 0))) = some (r1, r2, r3, r4, r5) := by first | (rw [hy119]; with_reducible exact H) | (have H2_ := (Option.bind_some _ _).symm.trans H; rw [hy119]; with_reducible exact H2_) | (have H2_ := (Option.bind_some _ _).symm.trans H; with_reducible exact H2_) | with_reducible exact H | (rw [hy119]; exact H) | exact H
            have Ny119 := Aside0.mk hy119
            clear hy119
            replace H := Option.bind_eq_some_iff.mp H
            obtain ⟨⟨t122, t123, t124, t125⟩, A310, H⟩ := H
            replace H : (some (t122, t123, t124, t125, 0)) = some (r1, r2, r3, r4, r5) := H
            have A31 := Aside0.mk A310
            clear A310
            simp only [Option.some.injEq, Prod.mk.injEq] at H
            obtain ⟨rfl, rfl, rfl, rfl, rfl⟩ := H
            have hnb32 := NB109_108.out
            have hnc32 := NB108_109.out
            have hnb33 := NB109_110.out
            have hnc33 := NB110_109.out
            have hcz34_0 : wc.cell? ⟨gb109, 0, none⟩ = some (.int .u64 a1_0) := (blk_cell BK109.out 0).trans rfl
            have hcz34_1 : wc.cell? ⟨gb109, 1, none⟩ = some (.string a1_1) := (blk_cell BK109.out 1).trans rfl
            have hfz34_0 := blk_frozen BK109.out 0
            have hfz34_1 := blk_frozen BK109.out 1
            try go_wp2
            have n0_ := Aside0.mk (blk_drew BK108.out)
            have n1_ := Aside0.mk (blk_drew BK109.out)
            have n2_ := Aside0.mk (blk_drew BK110.out)
            have n3_ := Aside0.mk (below_drew1 HB.out)
            clear BK108
            clear BK109
            clear BK110
            clear HB
            have BK108 := n0_
            have BK109 := n1_
            have BK110 := n2_
            have HB := n3_
            clear n0_ n1_ n2_ n3_
            refine start_ (n := 12) (S := fun w' => w'.cell? ⟨gb108, 0, none⟩ = some (.int .u64 a0_0) ∧ w'.cell? ⟨gb108, 1, none⟩ = some (.int .u64 a0_1) ∧ w'.cell? ⟨gb108, 2, none⟩ = some (.string a0_2) ∧ w'.cell? ⟨gb108, 3, none⟩ = some (.slice A0_3 l0_3.length c0_3) ∧ w'.cell? ⟨gb109, 0, none⟩ = some (.int .u64 a1_0) ∧ w'.cell? ⟨gb109, 1, none⟩ = some (.string a1_1)) (ds := []) #[false, false, false, false, false, false, false, false, false, false, false, false] (by kernel_rfl) rfl rfl ⟨(blk_cell BK108.out 0).trans rfl, (blk_cell BK108.out 1).trans rfl, (blk_cell BK108.out 2).trans rfl, (blk_cell BK108.out 3).trans rfl, (blk_cell BK109.out 0).trans rfl, (blk_cell BK109.out 1).trans rfl⟩ (fun hHeld => ?_); refine with_tabW rlog_Add.tab6 rlog_Add.bits6 (fun HT_ HW_ => ?_)
            generalize wc.drew = w35 at BK108 BK109 BK110 HB hHeld ⊢
            refine pure_ (i := 2) (N := some 31) (v := ?_) (a' := ?_) #[false, false, true, false, false, false, false, false, false, false, false, false] rfl rfl (any_of HT_.out (by kernel_rfl)) (fun _ _ _ h => h) (Or.inl ⟨by rfl, ?_⟩) ?_ ?_
            rotate_left
            · intro w'
              go_simp
              with_reducible rfl
            rotate_left
            · simp only [Act.put, List.setIfInBounds_toArray, List.set_cons_zero, List.set_cons_succ, i64_w, i32_w]
              rfl
            refine take_ (i := 0) (N := some 29) (v := ?_) (a' := ?_) #[true, false, true, false, false, false, false, false, false, false, false, false] rfl rfl (take_ofW HT_.out HW_.out (by kernel_rfl)) (fun _ _ _ h => h) (Or.inl ⟨by rfl, ?_⟩) hHeld ?_ ?_
            rotate_left
            · rintro w' ⟨s0, s1, s2, s3, s4, s5⟩
              go_simp
              with_reducible rfl
            rotate_left
            · simp only [Act.put, List.setIfInBounds_toArray, List.set_cons_zero, List.set_cons_succ, i64_w, i32_w]
              rfl
            refine take_ (i := 1) (N := some 30) (v := ?_) (a' := ?_) #[true, true, true, false, false, false, false, false, false, false, false, false] rfl rfl (take_ofW HT_.out HW_.out (by kernel_rfl)) (fun _ _ _ h => h) (Or.inl ⟨by rfl, ?_⟩) hHeld ?_ ?_
            rotate_left
            · rintro w' ⟨s0, s1, s2, s3, s4, s5⟩
              go_simp
              with_reducible rfl
            rotate_left
            · simp only [Act.put, List.setIfInBounds_toArray, List.set_cons_zero, List.set_cons_succ, i64_w, i32_w]
              rfl
            refine take_ (i := 3) (N := some 32) (v := ?_) (a' := ?_) #[true, true, true, true, false, false, false, false, false, false, false, false] rfl rfl (take_ofW HT_.out HW_.out (by kernel_rfl)) (fun _ _ _ h => h) (Or.inl ⟨by rfl, ?_⟩) hHeld ?_ ?_
            rotate_left
            · rintro w' ⟨s0, s1, s2, s3, s4, s5⟩
              go_simp
              with_reducible rfl
            rotate_left
            · simp only [Act.put, List.setIfInBounds_toArray, List.set_cons_zero, List.set_cons_succ, i64_w, i32_w]
              rfl
            refine pure_ (i := 4) (N := some 33) (v := ?_) (a' := ?_) #[true, true, true, true, true, false, false, false, false, false, false, false] rfl rfl (any_of HT_.out (by kernel_rfl)) (fun _ _ _ h => h) (Or.inl ⟨by rfl, ?_⟩) ?_ ?_
            rotate_left
            · intro w'
              go_simp
              with_reducible rfl
            rotate_left
            · simp only [Act.put, List.setIfInBounds_toArray, List.set_cons_zero, List.set_cons_succ, i64_w, i32_w]
              rfl
            refine take_ (i := 6) (N := some 35) (v := ?_) (a' := ?_) #[true, true, true, true, true, false, true, false, false, false, false, false] rfl rfl (take_ofW HT_.out HW_.out (by kernel_rfl)) (fun _ _ _ h => h) (Or.inl ⟨by rfl, ?_⟩) hHeld ?_ ?_
            rotate_left
            · rintro w' ⟨s0, s1, s2, s3, s4, s5⟩
              go_simp
              with_reducible rfl
            rotate_left
            · simp only [Act.put, List.setIfInBounds_toArray, List.set_cons_zero, List.set_cons_succ, i64_w, i32_w]
              rfl
            refine join_ (σ := Value × Value) 4 #[true, true, true, true, true, true, true, true, false, false, false, false] (fun s_ => [(34, s_.1), (36, s_.2)]) (fun s_ w' => (w'.cell? ⟨gb108, 0, none⟩ = some (.int .u64 a0_0) ∧ w'.cell? ⟨gb108, 1, none⟩ = some (.int .u64 a0_1) ∧ w'.cell? ⟨gb108, 2, none⟩ = some (.string a0_2) ∧ w'.cell? ⟨gb108, 3, none⟩ = some (.slice A0_3 l0_3.length c0_3) ∧ w'.cell? ⟨gb109, 0, none⟩ = some (.int .u64 a1_0) ∧ w'.cell? ⟨gb109, 1, none⟩ = some (.string a1_1)) ∧ (Kd.R k36 36 w' w.heap.size (fun k_ => some k_ ≠ (s_.2 : Value).ownBlock ∧ k_ ≠ gb109) s_.1 t113) ∧ (Kd.R k36 36 w' w.heap.size (fun k_ => some k_ ≠ (s_.1 : Value).ownBlock ∧ k_ ≠ gb109) s_.2 y116) ∧ (w'.heap[gb108]? = some (.cells #[.int .u64 a0_0, .int .u64 a0_1, .string a0_2, .slice A0_3 l0_3.length c0_3] 25 (0, 0))) ∧ (w'.heap[gb109]? = some (.cells #[.int .u64 a1_0, .string a1_1] 36 (0, 0))) ∧ (w'.heap[gb110]? = some (.cells #[.int .u64 0, .int .u64 0, .string (⟨#[]⟩ : ByteArray), .slice none 0 0] 25 (0, 0))) ∧ (Below w.heap.size w w')) ?_ ?_
            rotate_left
            · intro hCont
              refine two_ (i := 5) (j := 7) (Ni := some 34) (Nj := some 36) #[true, true, true, true, true, true, true, false, false, false, false, false] #[true, true, true, true, true, false, true, true, false, false, false, false] rfl rfl rfl rfl (two_of HT_.out (by kernel_rfl)) (by decide) (by decide) (fun K hK => ?_) (fun K hK => ?_)
              · skip
                refine goes_ Try.func31 (by kernel_rfl) rfl #[.agg #[.int .u64 a0_0, .int .u64 a0_1, .string a0_2, .slice A0_3 l0_3.length c0_3], .int .i64 (l0_3.length : Int)] (by rfl) rfl rfl (by (try simp only [List.map_toArray, List.map_cons, List.map_nil]); first | done | rfl | (simp only [List.length_drop, List.length_take]; rfl)) ?_
                with_reducible refine (rlog_own.calls a0_0 a0_1 a0_2 _ _ l0_3 (l0_3.length : Int) t113 _ ?side1 ?side2 A29.out).mono ?_
                (case side1 => repeat (first | exact (Kd.C_below HR0_3.out HB.out) | (with_reducible refine Kd.C_alloc ?_ _) | (with_reducible refine Kd.C_drewN ?_ _) | (with_reducible refine Kd.C_drew ?_)))
                (case side2 => exact HC0_3.out)
                rintro e w36 ⟨v114, rfl, ho0, hb⟩
                refine ⟨_, rfl, ?_⟩
                have n0_ := Aside0.mk (Kd.R_lower (Kd.R_newB ho0 (g := gb109) (o := .cells #[.int .u64 a1_0, .string a1_1] 36 (0, 0)) (by (with_reducible repeat (first | refine blk_drewN ?_ _ | refine blk_drew ?_ | refine blk_alloc ?_ _)); exact BK109.out)) (below_size (by repeat (first | (with_reducible first | exact HB.out | apply below_alloc | apply pw_below_drewN | apply below_drew1 | refine below_set ?_ GE108.out | refine below_set ?_ GE109.out | refine below_set ?_ GE110.out) | exact HB.out))))
                have n1_ := Aside0.mk (blk_below (g := gb108) (o := .cells #[.int .u64 a0_0, .int .u64 a0_1, .string a0_2, .slice A0_3 l0_3.length c0_3] 25 (0, 0)) (by (with_reducible repeat (first | refine blk_drewN ?_ _ | refine blk_drew ?_ | refine blk_alloc ?_ _)); exact BK108.out) hb)
                have n2_ := Aside0.mk (blk_below (g := gb109) (o := .cells #[.int .u64 a1_0, .string a1_1] 36 (0, 0)) (by (with_reducible repeat (first | refine blk_drewN ?_ _ | refine blk_drew ?_ | refine blk_alloc ?_ _)); exact BK109.out) hb)
                have n3_ := Aside0.mk (blk_below (g := gb110) (o := .cells #[.int .u64 0, .int .u64 0, .string (⟨#[]⟩ : ByteArray), .slice none 0 0] 25 (0, 0)) (by (with_reducible repeat (first | refine blk_drewN ?_ _ | refine blk_drew ?_ | refine blk_alloc ?_ _)); exact BK110.out) hb)
                have n4_ := Aside0.mk (below_step (by repeat (first | (with_reducible first | exact HB.out | apply below_alloc | apply pw_below_drewN | apply below_drew1 | refine below_set ?_ GE108.out | refine below_set ?_ GE109.out | refine below_set ?_ GE110.out) | exact HB.out)) hb)
                clear BK108
                clear BK109
                clear BK110
                clear HB
                have HO115 := n0_
                have BK108 := n1_
                have BK109 := n2_
                have BK110 := n3_
                have HB := n4_
                clear n0_ n1_ n2_ n3_ n4_
                (try clear hb)
                (try clear hb2)
                (try clear hk)
                (try clear hi)
                (try clear ho0)
                refine hK.out _ _ ⟨(blk_cell BK108.out 0).trans rfl, (blk_cell BK108.out 1).trans rfl, (blk_cell BK108.out 2).trans rfl, (blk_cell BK108.out 3).trans rfl, (blk_cell BK109.out 0).trans rfl, (blk_cell BK109.out 1).trans rfl⟩ (fun hHeld => ?_)
                clear hK K
                refine norm_ (a' := ?_) ?_ ?_
                rotate_left
                · show Act.put _ (some 34) _ = _
                  simp only [Act.put, List.setIfInBounds_toArray, List.set_cons_zero, List.set_cons_succ, i64_w, i32_w]
                  rfl
                refine one_ (i := 7) (N := some 36) #[true, true, true, true, true, true, true, true, false, false, false, false] rfl rfl (one_of HT_.out (by kernel_rfl)) (by decide) (fun K hK => ?_)
                refine Kd.R_lit_step k36 _ 36 ?hg (N := 36) ?hd (xs := ([(⟨a1_0, a1_1⟩ : S36)] : List (S36))) (inner := [.int .u64 a1_0, .string a1_1]) (ok := fun _ => True) (okp := fun _ => True) ?hr ?hp (fun _ hk => hk) trivial (Below.refl _ _) (Nat.le_refl _) (by simp) ?_; (case hd => rfl); (case hg => rfl); (case hr => first | (go_simp; done) | (go_simp; rfl)); (case hp => exact (Reps.c2 (show Kd.M k36 _ _ _ (⟨a1_0, a1_1⟩ : S36) [.int .u64 a1_0, .string a1_1] from (k36_mkM _ _ _ (⟨a1_0, a1_1⟩ : S36) )) (Reps.none _ _)))
                intro v117 w37 ho38 hb hg_ hnew_
                clear hg_ hnew_
                (first | rw [← Ny116.out] at ho38 | (simp only [Int.reduceToNat] at ho38; rw [← Ny116.out] at ho38))
                have n0_ := Aside0.mk (Kd.R_elder' (by (with_reducible repeat (first | apply Kd.R_alloc | apply Kd.R_drewN | apply Kd.R_drew)); exact HO115.out) (Kd.R_base ho38) hb)
                have n1_ := Aside0.mk (Kd.R_lower (Kd.R_newB (Kd.R_new' ho38 (Kd.R_lt (by (with_reducible repeat (first | apply Kd.R_alloc | apply Kd.R_drewN | apply Kd.R_drew)); exact HO115.out))) (g := gb109) (o := .cells #[.int .u64 a1_0, .string a1_1] 36 (0, 0)) (by (with_reducible repeat (first | refine blk_drewN ?_ _ | refine blk_drew ?_ | refine blk_alloc ?_ _)); exact BK109.out)) (below_size (by repeat (first | (with_reducible first | exact HB.out | apply below_alloc | apply pw_below_drewN | apply below_drew1 | refine below_set ?_ GE108.out | refine below_set ?_ GE109.out | refine below_set ?_ GE110.out) | exact HB.out))))
                have n2_ := Aside0.mk (blk_below (g := gb108) (o := .cells #[.int .u64 a0_0, .int .u64 a0_1, .string a0_2, .slice A0_3 l0_3.length c0_3] 25 (0, 0)) (by (with_reducible repeat (first | refine blk_drewN ?_ _ | refine blk_drew ?_ | refine blk_alloc ?_ _)); exact BK108.out) hb)
                have n3_ := Aside0.mk (blk_below (g := gb109) (o := .cells #[.int .u64 a1_0, .string a1_1] 36 (0, 0)) (by (with_reducible repeat (first | refine blk_drewN ?_ _ | refine blk_drew ?_ | refine blk_alloc ?_ _)); exact BK109.out) hb)
                have n4_ := Aside0.mk (blk_below (g := gb110) (o := .cells #[.int .u64 0, .int .u64 0, .string (⟨#[]⟩ : ByteArray), .slice none 0 0] 25 (0, 0)) (by (with_reducible repeat (first | refine blk_drewN ?_ _ | refine blk_drew ?_ | refine blk_alloc ?_ _)); exact BK110.out) hb)
                have n5_ := Aside0.mk (below_step (by repeat (first | (with_reducible first | exact HB.out | apply below_alloc | apply pw_below_drewN | apply below_drew1 | refine below_set ?_ GE108.out | refine below_set ?_ GE109.out | refine below_set ?_ GE110.out) | exact HB.out)) hb)
                clear HO115
                clear BK108
                clear BK109
                clear BK110
                clear HB
                have HO115 := n0_
                have HO118 := n1_
                have BK108 := n2_
                have BK109 := n3_
                have BK110 := n4_
                have HB := n5_
                clear n0_ n1_ n2_ n3_ n4_ n5_
                clear hb ho38
                refine hK.out _ _ ⟨(blk_cell BK108.out 0).trans rfl, (blk_cell BK108.out 1).trans rfl, (blk_cell BK108.out 2).trans rfl, (blk_cell BK108.out 3).trans rfl, (blk_cell BK109.out 0).trans rfl, (blk_cell BK109.out 1).trans rfl⟩ (fun hHeld => ?_)
                clear hK K
                refine norm_ (a' := ?_) ?_ ?_
                rotate_left
                · show Act.put _ (some 36) _ = _
                  simp only [Act.put, List.setIfInBounds_toArray, List.set_cons_zero, List.set_cons_succ, i64_w, i32_w]
                  rfl
                exact norm_ (by simp only [putAll, Act.put, List.setIfInBounds_toArray, List.set_cons_zero, List.set_cons_succ]) (hCont (v114, v117) _ ⟨hHeld, (by (with_reducible repeat (first | apply Kd.R_alloc | apply Kd.R_drewN | apply Kd.R_drew)); exact Kd.R_mono HO115.out (fun _ hk => ⟨hk.2, hk.1.2⟩)), (by (with_reducible repeat (first | apply Kd.R_alloc | apply Kd.R_drewN | apply Kd.R_drew)); exact Kd.R_mono HO118.out (fun _ hk => ⟨hk.1.2, hk.2⟩)), (by (with_reducible repeat (first | refine blk_drewN ?_ _ | refine blk_drew ?_ | refine blk_alloc ?_ _)); exact BK108.out), (by (with_reducible repeat (first | refine blk_drewN ?_ _ | refine blk_drew ?_ | refine blk_alloc ?_ _)); exact BK109.out), (by (with_reducible repeat (first | refine blk_drewN ?_ _ | refine blk_drew ?_ | refine blk_alloc ?_ _)); exact BK110.out), (by repeat (first | (with_reducible first | exact HB.out | apply below_alloc | apply pw_below_drewN | apply below_drew1 | refine below_set ?_ GE108.out | refine below_set ?_ GE109.out | refine below_set ?_ GE110.out) | exact HB.out))⟩)
              · skip
                refine Kd.R_lit_step k36 _ 36 ?hg (N := 36) ?hd (xs := ([(⟨a1_0, a1_1⟩ : S36)] : List (S36))) (inner := [.int .u64 a1_0, .string a1_1]) (ok := fun _ => True) (okp := fun _ => True) ?hr ?hp (fun _ hk => hk) trivial (Below.refl _ _) (Nat.le_refl _) (by simp) ?_; (case hd => rfl); (case hg => rfl); (case hr => first | (go_simp; done) | (go_simp; rfl)); (case hp => exact (Reps.c2 (show Kd.M k36 _ _ _ (⟨a1_0, a1_1⟩ : S36) [.int .u64 a1_0, .string a1_1] from (k36_mkM _ _ _ (⟨a1_0, a1_1⟩ : S36) )) (Reps.none _ _)))
                intro v117 w36 ho37 hb hg_ hnew_
                clear hg_ hnew_
                (first | rw [← Ny116.out] at ho37 | (simp only [Int.reduceToNat] at ho37; rw [← Ny116.out] at ho37))
                have n0_ := Aside0.mk (Kd.R_lower (Kd.R_newB ho37 (g := gb109) (o := .cells #[.int .u64 a1_0, .string a1_1] 36 (0, 0)) (by (with_reducible repeat (first | refine blk_drewN ?_ _ | refine blk_drew ?_ | refine blk_alloc ?_ _)); exact BK109.out)) (below_size (by repeat (first | (with_reducible first | exact HB.out | apply below_alloc | apply pw_below_drewN | apply below_drew1 | refine below_set ?_ GE108.out | refine below_set ?_ GE109.out | refine below_set ?_ GE110.out) | exact HB.out))))
                have n1_ := Aside0.mk (blk_below (g := gb108) (o := .cells #[.int .u64 a0_0, .int .u64 a0_1, .string a0_2, .slice A0_3 l0_3.length c0_3] 25 (0, 0)) (by (with_reducible repeat (first | refine blk_drewN ?_ _ | refine blk_drew ?_ | refine blk_alloc ?_ _)); exact BK108.out) hb)
                have n2_ := Aside0.mk (blk_below (g := gb109) (o := .cells #[.int .u64 a1_0, .string a1_1] 36 (0, 0)) (by (with_reducible repeat (first | refine blk_drewN ?_ _ | refine blk_drew ?_ | refine blk_alloc ?_ _)); exact BK109.out) hb)
                have n3_ := Aside0.mk (blk_below (g := gb110) (o := .cells #[.int .u64 0, .int .u64 0, .string (⟨#[]⟩ : ByteArray), .slice none 0 0] 25 (0, 0)) (by (with_reducible repeat (first | refine blk_drewN ?_ _ | refine blk_drew ?_ | refine blk_alloc ?_ _)); exact BK110.out) hb)
                have n4_ := Aside0.mk (below_step (by repeat (first | (with_reducible first | exact HB.out | apply below_alloc | apply pw_below_drewN | apply below_drew1 | refine below_set ?_ GE108.out | refine below_set ?_ GE109.out | refine below_set ?_ GE110.out) | exact HB.out)) hb)
                clear BK108
                clear BK109
                clear BK110
                clear HB
                have HO118 := n0_
                have BK108 := n1_
                have BK109 := n2_
                have BK110 := n3_
                have HB := n4_
                clear n0_ n1_ n2_ n3_ n4_
                clear hb ho37
                refine hK.out _ _ ⟨(blk_cell BK108.out 0).trans rfl, (blk_cell BK108.out 1).trans rfl, (blk_cell BK108.out 2).trans rfl, (blk_cell BK108.out 3).trans rfl, (blk_cell BK109.out 0).trans rfl, (blk_cell BK109.out 1).trans rfl⟩ (fun hHeld => ?_)
                clear hK K
                refine norm_ (a' := ?_) ?_ ?_
                rotate_left
                · show Act.put _ (some 36) _ = _
                  simp only [Act.put, List.setIfInBounds_toArray, List.set_cons_zero, List.set_cons_succ, i64_w, i32_w]
                  rfl
                refine one_ (i := 5) (N := some 34) #[true, true, true, true, true, true, true, true, false, false, false, false] rfl rfl (one_of HT_.out (by kernel_rfl)) (by decide) (fun K hK => ?_)
                refine goes_ Try.func31 (by kernel_rfl) rfl #[.agg #[.int .u64 a0_0, .int .u64 a0_1, .string a0_2, .slice A0_3 l0_3.length c0_3], .int .i64 (l0_3.length : Int)] (by rfl) rfl rfl (by (try simp only [List.map_toArray, List.map_cons, List.map_nil]); first | done | rfl | (simp only [List.length_drop, List.length_take]; rfl)) ?_
                with_reducible refine (rlog_own.calls a0_0 a0_1 a0_2 _ _ l0_3 (l0_3.length : Int) t113 _ ?side1 ?side2 A29.out).mono ?_
                (case side1 => repeat (first | exact (Kd.C_below HR0_3.out HB.out) | (with_reducible refine Kd.C_alloc ?_ _) | (with_reducible refine Kd.C_drewN ?_ _) | (with_reducible refine Kd.C_drew ?_)))
                (case side2 => exact HC0_3.out)
                rintro e w38 ⟨v114, rfl, ho0, hb⟩
                refine ⟨_, rfl, ?_⟩
                have n0_ := Aside0.mk (Kd.R_elder' (by (with_reducible repeat (first | apply Kd.R_alloc | apply Kd.R_drewN | apply Kd.R_drew)); exact HO118.out) (Kd.R_base ho0) hb)
                have n1_ := Aside0.mk (Kd.R_lower (Kd.R_newB (Kd.R_new' ho0 (Kd.R_lt (by (with_reducible repeat (first | apply Kd.R_alloc | apply Kd.R_drewN | apply Kd.R_drew)); exact HO118.out))) (g := gb109) (o := .cells #[.int .u64 a1_0, .string a1_1] 36 (0, 0)) (by (with_reducible repeat (first | refine blk_drewN ?_ _ | refine blk_drew ?_ | refine blk_alloc ?_ _)); exact BK109.out)) (below_size (by repeat (first | (with_reducible first | exact HB.out | apply below_alloc | apply pw_below_drewN | apply below_drew1 | refine below_set ?_ GE108.out | refine below_set ?_ GE109.out | refine below_set ?_ GE110.out) | exact HB.out))))
                have n2_ := Aside0.mk (blk_below (g := gb108) (o := .cells #[.int .u64 a0_0, .int .u64 a0_1, .string a0_2, .slice A0_3 l0_3.length c0_3] 25 (0, 0)) (by (with_reducible repeat (first | refine blk_drewN ?_ _ | refine blk_drew ?_ | refine blk_alloc ?_ _)); exact BK108.out) hb)
                have n3_ := Aside0.mk (blk_below (g := gb109) (o := .cells #[.int .u64 a1_0, .string a1_1] 36 (0, 0)) (by (with_reducible repeat (first | refine blk_drewN ?_ _ | refine blk_drew ?_ | refine blk_alloc ?_ _)); exact BK109.out) hb)
                have n4_ := Aside0.mk (blk_below (g := gb110) (o := .cells #[.int .u64 0, .int .u64 0, .string (⟨#[]⟩ : ByteArray), .slice none 0 0] 25 (0, 0)) (by (with_reducible repeat (first | refine blk_drewN ?_ _ | refine blk_drew ?_ | refine blk_alloc ?_ _)); exact BK110.out) hb)
                have n5_ := Aside0.mk (below_step (by repeat (first | (with_reducible first | exact HB.out | apply below_alloc | apply pw_below_drewN | apply below_drew1 | refine below_set ?_ GE108.out | refine below_set ?_ GE109.out | refine below_set ?_ GE110.out) | exact HB.out)) hb)
                clear HO118
                clear BK108
                clear BK109
                clear BK110
                clear HB
                have HO118 := n0_
                have HO115 := n1_
                have BK108 := n2_
                have BK109 := n3_
                have BK110 := n4_
                have HB := n5_
                clear n0_ n1_ n2_ n3_ n4_ n5_
                (try clear hb)
                (try clear hb2)
                (try clear hk)
                (try clear hi)
                (try clear ho0)
                refine hK.out _ _ ⟨(blk_cell BK108.out 0).trans rfl, (blk_cell BK108.out 1).trans rfl, (blk_cell BK108.out 2).trans rfl, (blk_cell BK108.out 3).trans rfl, (blk_cell BK109.out 0).trans rfl, (blk_cell BK109.out 1).trans rfl⟩ (fun hHeld => ?_)
                clear hK K
                refine norm_ (a' := ?_) ?_ ?_
                rotate_left
                · show Act.put _ (some 34) _ = _
                  simp only [Act.put, List.setIfInBounds_toArray, List.set_cons_zero, List.set_cons_succ, i64_w, i32_w]
                  rfl
                exact norm_ (by simp only [putAll, Act.put, List.setIfInBounds_toArray, List.set_cons_zero, List.set_cons_succ]) (hCont (v114, v117) _ ⟨hHeld, (by (with_reducible repeat (first | apply Kd.R_alloc | apply Kd.R_drewN | apply Kd.R_drew)); exact Kd.R_mono HO115.out (fun _ hk => ⟨hk.1.2, hk.2⟩)), (by (with_reducible repeat (first | apply Kd.R_alloc | apply Kd.R_drewN | apply Kd.R_drew)); exact Kd.R_mono HO118.out (fun _ hk => ⟨hk.2, hk.1.2⟩)), (by (with_reducible repeat (first | refine blk_drewN ?_ _ | refine blk_drew ?_ | refine blk_alloc ?_ _)); exact BK108.out), (by (with_reducible repeat (first | refine blk_drewN ?_ _ | refine blk_drew ?_ | refine blk_alloc ?_ _)); exact BK109.out), (by (with_reducible repeat (first | refine blk_drewN ?_ _ | refine blk_drew ?_ | refine blk_alloc ?_ _)); exact BK110.out), (by repeat (first | (with_reducible first | exact HB.out | apply below_alloc | apply pw_below_drewN | apply below_drew1 | refine below_set ?_ GE108.out | refine below_set ?_ GE109.out | refine below_set ?_ GE110.out) | exact HB.out))⟩)
            rintro ⟨v114, v117⟩ w39 ⟨hS_, h0_, h1_, h2_, h3_, h4_, h5_⟩
            have n0_ : Aside0 (Kd.R k36 36 w39 w.heap.size (fun k_ => some k_ ≠ (v117 : Value).ownBlock ∧ k_ ≠ gb109) v114 t113) := ⟨h0_⟩
            have n1_ : Aside0 (Kd.R k36 36 w39 w.heap.size (fun k_ => some k_ ≠ (v114 : Value).ownBlock ∧ k_ ≠ gb109) v117 y116) := ⟨h1_⟩
            have n2_ : Aside0 (w39.heap[gb108]? = some (.cells #[.int .u64 a0_0, .int .u64 a0_1, .string a0_2, .slice A0_3 l0_3.length c0_3] 25 (0, 0))) := ⟨h2_⟩
            have n3_ : Aside0 (w39.heap[gb109]? = some (.cells #[.int .u64 a1_0, .string a1_1] 36 (0, 0))) := ⟨h3_⟩
            have n4_ : Aside0 (w39.heap[gb110]? = some (.cells #[.int .u64 0, .int .u64 0, .string (⟨#[]⟩ : ByteArray), .slice none 0 0] 25 (0, 0))) := ⟨h4_⟩
            have n5_ : Aside0 (Below w.heap.size w w39) := ⟨h5_⟩
            clear BK108
            clear BK109
            clear BK110
            clear HB
            clear h0_ h1_ h2_ h3_ h4_ h5_
            have HO115 := n0_
            have HO118 := n1_
            have BK108 := n2_
            have BK109 := n3_
            have BK110 := n4_
            have HB := n5_
            clear n0_ n1_ n2_ n3_ n4_ n5_
            have hHeld : w39.cell? ⟨gb108, 0, none⟩ = some (.int .u64 a0_0) ∧ w39.cell? ⟨gb108, 1, none⟩ = some (.int .u64 a0_1) ∧ w39.cell? ⟨gb108, 2, none⟩ = some (.string a0_2) ∧ w39.cell? ⟨gb108, 3, none⟩ = some (.slice A0_3 l0_3.length c0_3) ∧ w39.cell? ⟨gb109, 0, none⟩ = some (.int .u64 a1_0) ∧ w39.cell? ⟨gb109, 1, none⟩ = some (.string a1_1) := hS_
            obtain ⟨Ao41, co41, eo41⟩ := Kd.R_slice HO118.out
            (first | subst eo41 | (injection eo41 with f1_ f2_ f3_; have f4_ := f1_.symm; have f5_ := f3_.symm; clear f1_ f2_ f3_; subst f4_; subst f5_))
            refine norm_ (a' := ?_) ?_ ?_
            rotate_left
            · simp only [putAll, Act.put, List.setIfInBounds_toArray, List.set_cons_zero, List.set_cons_succ]
              rfl
            refine one_ (i := 8) (N := some 37) #[true, true, true, true, true, true, true, true, true, false, false, false] rfl rfl (one_of HT_.out (by kernel_rfl)) (by decide) (fun K hK => ?_)
            refine Kd.R_append_rows_step k36 (w0 := w) w.heap.size (by rfl) (.tmp 34) (.tmp 36) 23 36 (.agg #[(.int .u64 0), (.string ⟨#[]⟩)]) 24 rfl Try.underlying23 info36 rfl (by decide) (by omega) v114 t113 y116 _ _ _ (fun k_ => some k_ ≠ (.slice Ao41 y116.length co41 : Value).ownBlock ∧ k_ ≠ gb109) (fun _ => False) rfl rfl ?aO ?aR (fun _ _ h => h) (fun _ h => h.elim) ?aF ?aB ?aS ?aL ?_
            (case aR => repeat (first | exact (Kd.R_reads' HO118.out).2.2 | (with_reducible refine Kd.C_alloc ?_ _) | (with_reducible refine Kd.C_drewN ?_ _) | (with_reducible refine Kd.C_drew ?_)))
            (case aB => exact (by repeat (first | (with_reducible first | exact HB.out | apply below_alloc | apply pw_below_drewN | apply below_drew1 | refine below_set ?_ GE108.out | refine below_set ?_ GE109.out | refine below_set ?_ GE110.out) | exact HB.out)))
            (case aF => exact (fun k_ hk => ⟨Kd.fresh' (Kd.R_lt (by (with_reducible repeat (first | apply Kd.R_alloc | apply Kd.R_drewN | apply Kd.R_drew)); exact HO118.out)) k_ hk, Kd.freshB (g := gb109) (o := .cells #[.int .u64 a1_0, .string a1_1] 36 (0, 0)) (by (with_reducible repeat (first | refine blk_drewN ?_ _ | refine blk_drew ?_ | refine blk_alloc ?_ _)); exact BK109.out) k_ hk⟩))
            (case aO => exact (by (with_reducible repeat (first | apply Kd.R_alloc | apply Kd.R_drewN | apply Kd.R_drew)); exact HO115.out))
            (case aS => exact (below_size (by repeat (first | (with_reducible first | exact HB.out | apply below_alloc | apply pw_below_drewN | apply below_drew1 | refine below_set ?_ GE108.out | refine below_set ?_ GE109.out | refine below_set ?_ GE110.out) | exact HB.out))))
            (case aL => have := LMc30.out; omega)
            intro v120 w40 ho hb hg hat
            rw [← Ny119.out] at ho
            have n0_ := Aside0.mk (blk_grown (g := gb108) (o := .cells #[.int .u64 a0_0, .int .u64 a0_1, .string a0_2, .slice A0_3 l0_3.length c0_3] 25 (0, 0)) (by (with_reducible repeat (first | refine blk_drewN ?_ _ | refine blk_drew ?_ | refine blk_alloc ?_ _)); exact BK108.out) hg (Kd.R_ne HO115.out BK108.out (by decide)))
            have n1_ := Aside0.mk (blk_grown (g := gb109) (o := .cells #[.int .u64 a1_0, .string a1_1] 36 (0, 0)) (by (with_reducible repeat (first | refine blk_drewN ?_ _ | refine blk_drew ?_ | refine blk_alloc ?_ _)); exact BK109.out) hg (Kd.R_away HO115.out (fun _ hk => hk.2)))
            have n2_ := Aside0.mk (blk_grown (g := gb110) (o := .cells #[.int .u64 0, .int .u64 0, .string (⟨#[]⟩ : ByteArray), .slice none 0 0] 25 (0, 0)) (by (with_reducible repeat (first | refine blk_drewN ?_ _ | refine blk_drew ?_ | refine blk_alloc ?_ _)); exact BK110.out) hg (Kd.R_ne HO115.out BK110.out (by decide)))
            have n3_ := Aside0.mk (Kd.R_after (ok := (fun k_ => k_ ≠ gb109)) (by (with_reducible repeat (first | apply Kd.R_alloc | apply Kd.R_drewN | apply Kd.R_drew)); exact Kd.R_mono HO118.out (fun _ hk => ⟨hk.2, hk.1⟩)) hg hat)
            have n4_ := Aside0.mk (hb)
            have n5_ := Aside0.mk (ho)
            clear BK108
            clear BK109
            clear BK110
            clear HO118
            clear HB
            clear HO115
            have BK108 := n0_
            have BK109 := n1_
            have BK110 := n2_
            have HO118 := n3_
            have HB := n4_
            have HO121 := n5_
            clear n0_ n1_ n2_ n3_ n4_ n5_
            clear ho hb hg hat
            obtain ⟨Ao42, co42, eo42⟩ := Kd.R_slice HO121.out
            (first | subst eo42 | (injection eo42 with f1_ f2_ f3_; have f4_ := f1_.symm; have f5_ := f3_.symm; clear f1_ f2_ f3_; subst f4_; subst f5_))
            refine hK.out _ _ ⟨(blk_cell BK108.out 0).trans rfl, (blk_cell BK108.out 1).trans rfl, (blk_cell BK108.out 2).trans rfl, (blk_cell BK108.out 3).trans rfl, (blk_cell BK109.out 0).trans rfl, (blk_cell BK109.out 1).trans rfl⟩ (fun hHeld => ?_)
            clear hK K
            refine norm_ (a' := ?_) ?_ ?_
            rotate_left
            · show Act.put _ (some 37) _ = _
              simp only [Act.put, List.setIfInBounds_toArray, List.set_cons_zero, List.set_cons_succ, i64_w, i32_w]
              rfl
            refine one_ (i := 9) (N := some 38) #[true, true, true, true, true, true, true, true, true, true, false, false] rfl rfl (one_of HT_.out (by kernel_rfl)) (by decide) (fun K hK => ?_)
            refine goes_ Try.func32 (by kernel_rfl) rfl #[.agg #[.int .u64 a0_0, .int .u64 a0_1, .string a0_2, .slice A0_3 l0_3.length c0_3], .slice Ao42 y119.length co42] (by rfl) rfl rfl (by (try simp only [List.map_toArray, List.map_cons, List.map_nil]); first | done | rfl | (simp only [List.length_drop, List.length_take]; rfl)) ?_
            with_reducible refine (rlog_with.calls a0_0 a0_1 a0_2 _ _ l0_3 (fun k_ => some k_ = (.slice Ao42 y119.length co42 : Value).ownBlock) (.slice Ao42 y119.length co42) y119 t122 t123 t124 t125 w _ ?side1 ?side2 ?side3 ?side4 A31.out).mono ?_
            (case side1 => repeat (first | (with_reducible first | exact HB.out | apply below_alloc | apply pw_below_drewN | apply below_drew1 | refine below_set ?_ GE108.out | refine below_set ?_ GE109.out | refine below_set ?_ GE110.out) | exact HB.out))
            (case side2 => exact Kd.C_kept_came k36_heap HR0_3.out (by repeat (first | (with_reducible first | exact HB.out | apply below_alloc | apply pw_below_drewN | apply below_drew1 | refine below_set ?_ GE108.out | refine below_set ?_ GE109.out | refine below_set ?_ GE110.out) | exact HB.out)) (fun k_ hs_ => (fun e_ => Kd.R_base HO121.out k_ e_.symm) hs_))
            (case side3 => exact HC0_3.out)
            (case side4 => exact Kd.R_tight rfl HO121.out)
            rintro e w43 ⟨v126, rfl, ho0, hb, hkp⟩
            refine ⟨_, rfl, ?_⟩
            have n0_ := Aside0.mk (blk_kept (by (with_reducible repeat (first | refine blk_drewN ?_ _ | refine blk_drew ?_ | refine blk_alloc ?_ _)); exact BK108.out) hkp (fun hs_ => (fun e_ => (Kd.R_ne HO121.out BK108.out (by decide)) e_) hs_))
            have n1_ := Aside0.mk (blk_kept (by (with_reducible repeat (first | refine blk_drewN ?_ _ | refine blk_drew ?_ | refine blk_alloc ?_ _)); exact BK109.out) hkp (fun hs_ => (fun e_ => (Kd.R_away HO121.out (fun _ hk => hk.2)) e_) hs_))
            have n2_ := Aside0.mk (blk_kept (by (with_reducible repeat (first | refine blk_drewN ?_ _ | refine blk_drew ?_ | refine blk_alloc ?_ _)); exact BK110.out) hkp (fun hs_ => (fun e_ => (Kd.R_ne HO121.out BK110.out (by decide)) e_) hs_))
            have n3_ := Aside0.mk (Kd.R_mono (ok' := fun k_ => k_ ≠ gb109 ∧ some k_ ≠ (v126 : Value).ownBlock) (Kd.R_keptB (HO118.out) hkp (fun k_ hk_ hs_ => (hk_.2) hs_)) (fun k_ hk_ => ⟨hk_.1.1, fun e_ => Or.elim (ho0.1 k_ e_.symm) (fun hs_ => hk_.2.1 hs_) (fun hn_ => Nat.not_le.2 hk_.2.2 hn_)⟩))
            have n4_ := Aside0.mk (Kd.R_mono (ok' := fun k_ => some k_ ≠ (.slice Ao41 y116.length co41 : Value).ownBlock ∧ k_ ≠ gb109) ho0 (fun k_ hk_ => ⟨Or.elim hk_ (fun hs_ => fun e_ => (((HO118.out).1 k_ e_.symm).2) hs_) (fun hn_ => (Kd.fresh' (Kd.R_lt (by (with_reducible repeat (first | apply Kd.R_alloc | apply Kd.R_drewN | apply Kd.R_drew)); exact HO118.out)) k_ hn_)), Or.elim hk_ (fun hs_ => fun e_ => (Kd.R_away HO121.out (fun _ hk => hk.2)) (by rw [← e_]; exact hs_)) (fun hn_ => (Kd.freshB (g := gb109) (o := .cells #[.int .u64 a1_0, .string a1_1] 36 (0, 0)) (by (with_reducible repeat (first | refine blk_drewN ?_ _ | refine blk_drew ?_ | refine blk_alloc ?_ _)); exact BK109.out) k_ hn_))⟩))
            have n5_ := Aside0.mk (hb)
            clear BK108
            clear BK109
            clear BK110
            clear HO118
            clear HB
            clear HO121
            have BK108 := n0_
            have BK109 := n1_
            have BK110 := n2_
            have HO118 := n3_
            have HO127 := n4_
            have HB := n5_
            clear n0_ n1_ n2_ n3_ n4_ n5_
            (try clear hb)
            (try clear hkp)
            (try clear ho0)
            obtain ⟨Ao47, co47, eo47⟩ := Kd.R_slice HO127.out
            (first | subst eo47 | (injection eo47 with f1_ f2_ f3_; have f4_ := f1_.symm; have f5_ := f3_.symm; clear f1_ f2_ f3_; subst f4_; subst f5_))
            refine hK.out _ _ ⟨(blk_cell BK108.out 0).trans rfl, (blk_cell BK108.out 1).trans rfl, (blk_cell BK108.out 2).trans rfl, (blk_cell BK108.out 3).trans rfl, (blk_cell BK109.out 0).trans rfl, (blk_cell BK109.out 1).trans rfl⟩ (fun hHeld => ?_)
            clear hK K
            refine norm_ (a' := ?_) ?_ ?_
            rotate_left
            · show Act.put _ (some 38) _ = _
              simp only [Act.put, List.setIfInBounds_toArray, List.set_cons_zero, List.set_cons_succ, i64_w, i32_w]
              rfl
            refine one_ (i := 10) (N := none) #[true, true, true, true, true, true, true, true, true, true, true, false] rfl rfl (one_of HT_.out (by kernel_rfl)) (by decide) (fun K hK => ?_)
            have hs44 : w43.cell? ⟨gb110, 0, none⟩ = some (.int .u64 0) := (blk_cell BK110.out 0).trans rfl
            have hfs44 := blk_frozen BK110.out 0
            have hns44_0 := NB108_110.out
            have hns44_1 := NB109_110.out
            have hms44_0 := NB110_108.out
            have hms44_1 := NB110_109.out
            have hs45 : w43.cell? ⟨gb110, 1, none⟩ = some (.int .u64 0) := (blk_cell BK110.out 1).trans rfl
            have hfs45 := blk_frozen BK110.out 1
            have hns45_0 := NB108_110.out
            have hns45_1 := NB109_110.out
            have hms45_0 := NB110_108.out
            have hms45_1 := NB110_109.out
            have hs46 : w43.cell? ⟨gb110, 2, none⟩ = some (.string (⟨#[]⟩ : ByteArray)) := (blk_cell BK110.out 2).trans rfl
            have hfs46 := blk_frozen BK110.out 2
            have hns46_0 := NB108_110.out
            have hns46_1 := NB109_110.out
            have hms46_0 := NB110_108.out
            have hms46_1 := NB110_109.out
            have hs48 : w43.cell? ⟨gb110, 3, none⟩ = some (.slice none 0 0) := (blk_cell BK110.out 3).trans rfl
            have hfs48 := blk_frozen BK110.out 3
            have hns48_0 := NB108_110.out
            have hns48_1 := NB109_110.out
            have hms48_0 := NB110_108.out
            have hms48_1 := NB110_109.out
            refine skip_ (w1 := ?_) (by rfl) rfl ?_ ?_
            rotate_left
            · go_simp
              rfl
            refine hK.out _ _ ⟨((cell_far (p := ⟨gb110, _, none⟩) NB108_110.out _).trans (((cell_far (p := ⟨gb110, _, none⟩) NB108_110.out _).trans (((cell_far (p := ⟨gb110, _, none⟩) NB108_110.out _).trans (((cell_far (p := ⟨gb110, _, none⟩) NB108_110.out _).trans (hHeld.1)))))))), ((cell_far (p := ⟨gb110, _, none⟩) NB108_110.out _).trans (((cell_far (p := ⟨gb110, _, none⟩) NB108_110.out _).trans (((cell_far (p := ⟨gb110, _, none⟩) NB108_110.out _).trans (((cell_far (p := ⟨gb110, _, none⟩) NB108_110.out _).trans (hHeld.2.1)))))))), ((cell_far (p := ⟨gb110, _, none⟩) NB108_110.out _).trans (((cell_far (p := ⟨gb110, _, none⟩) NB108_110.out _).trans (((cell_far (p := ⟨gb110, _, none⟩) NB108_110.out _).trans (((cell_far (p := ⟨gb110, _, none⟩) NB108_110.out _).trans (hHeld.2.2.1)))))))), ((cell_far (p := ⟨gb110, _, none⟩) NB108_110.out _).trans (((cell_far (p := ⟨gb110, _, none⟩) NB108_110.out _).trans (((cell_far (p := ⟨gb110, _, none⟩) NB108_110.out _).trans (((cell_far (p := ⟨gb110, _, none⟩) NB108_110.out _).trans (hHeld.2.2.2.1)))))))), ((cell_far (p := ⟨gb110, _, none⟩) NB109_110.out _).trans (((cell_far (p := ⟨gb110, _, none⟩) NB109_110.out _).trans (((cell_far (p := ⟨gb110, _, none⟩) NB109_110.out _).trans (((cell_far (p := ⟨gb110, _, none⟩) NB109_110.out _).trans (hHeld.2.2.2.2.1)))))))), ((cell_far (p := ⟨gb110, _, none⟩) NB109_110.out _).trans (((cell_far (p := ⟨gb110, _, none⟩) NB109_110.out _).trans (((cell_far (p := ⟨gb110, _, none⟩) NB109_110.out _).trans (((cell_far (p := ⟨gb110, _, none⟩) NB109_110.out _).trans (hHeld.2.2.2.2.2))))))))⟩ (fun hHeld => ?_)
            clear hK K
            refine pure_ (i := 11) (N := some 5) (v := ?_) (a' := ?_) #[true, true, true, true, true, true, true, true, true, true, true, true] rfl rfl (any_of HT_.out (by kernel_rfl)) (fun _ _ _ h => h) (Or.inl ⟨by rfl, ?_⟩) ?_ ?_
            rotate_left
            · intro w'
              go_simp
              with_reducible rfl
            rotate_left
            · simp only [Act.put, List.setIfInBounds_toArray, List.set_cons_zero, List.set_cons_succ, i64_w, i32_w]
              rfl
            refine done_ (done_of HT_.out (by kernel_rfl)) ?_
            try go_wp2
            refine bodyPost_ret (results_ct rfl _ _ gb110 25 #[.int .u64 t122, .int .u64 t123, .string t124, .slice Ao47 t125.length co47] (0, 0) _ rfl (by (with_reducible repeat (first | refine blk_drewN ?_ _ | refine blk_drew ?_ | refine blk_alloc ?_ _)); refine blk_put (cs := #[.int .u64 t122, .int .u64 t123, .string t124, .slice none 0 0]) ?_ 3 _ rfl; (with_reducible repeat (first | refine blk_drewN ?_ _ | refine blk_drew ?_ | refine blk_alloc ?_ _)); refine blk_put (cs := #[.int .u64 t122, .int .u64 t123, .string (⟨#[]⟩ : ByteArray), .slice none 0 0]) ?_ 2 _ rfl; (with_reducible repeat (first | refine blk_drewN ?_ _ | refine blk_drew ?_ | refine blk_alloc ?_ _)); refine blk_put (cs := #[.int .u64 t122, .int .u64 0, .string (⟨#[]⟩ : ByteArray), .slice none 0 0]) ?_ 1 _ rfl; (with_reducible repeat (first | refine blk_drewN ?_ _ | refine blk_drew ?_ | refine blk_alloc ?_ _)); refine blk_put (cs := #[.int .u64 0, .int .u64 0, .string (⟨#[]⟩ : ByteArray), .slice none 0 0]) ?_ 0 _ rfl; (with_reducible repeat (first | refine blk_drewN ?_ _ | refine blk_drew ?_ | refine blk_alloc ?_ _)); exact BK110.out) Try.underlying25 rfl (by kernel_rfl)) rfl ?_
            exact ⟨_, by first | rfl | (simp [errW_none, errW_some] <;> rfl) | (simp [*, errW_none, errW_some] <;> rfl), by (with_reducible repeat (first | apply Kd.R_alloc | apply Kd.R_drewN | apply Kd.R_drew)); exact Kd.R_mono (Kd.R_far (p := ⟨gb110, 3, none⟩) (Kd.R_far (p := ⟨gb110, 2, none⟩) (Kd.R_far (p := ⟨gb110, 1, none⟩) (Kd.R_far (p := ⟨gb110, 0, none⟩) (Kd.R_types HO127.out BK110.out (by decide)) (fun _ hk => hk.2) (.int .u64 t122)) (fun _ hk => hk.2) (.int .u64 t123)) (fun _ hk => hk.2) (.string t124)) (fun _ hk => hk.2) (.slice Ao47 t125.length co47)) (fun _ hk => trivial), by repeat (first | (with_reducible first | exact HB.out | apply below_alloc | apply pw_below_drewN | apply below_drew1 | refine below_set ?_ GE108.out | refine below_set ?_ GE109.out | refine below_set ?_ GE110.out) | exact HB.out)⟩
          · rw [if_neg c30] at H
            exact absurd H (by simp)

end Go.Proofs.Ytbejichfgednhaa.Pr
