/- What the program's functions compute, and that they compute it: printed out of the translation by a program of this session's (px.py, over the kit's printer). Conditions: none. -/
import Derived.Test.YtbejichfgednhaaPr0
import Derived.Test.YtbejichfgednhaaPr12
import Derived.Test.YtbejichfgednhaaPr14
import Derived.Test.YtbejichfgednhaaHandShown
namespace Go.Proofs.Ytbejichfgednhaa.Pr
open Go.RowKit Go.Proofs.YtbejichfgednhaaW.PrintWords Go.Proofs.YtbejichfgednhaaW.PrintLast Go.Proofs.YtbejichfgednhaaW.PrintMore
attribute [local go_sem] max2_int min2_int max_two min_two max_three min_three max_four min_four   -- for this text's walks alone
set_option linter.unusedVariables false
set_option linter.unusedSimpArgs false

/-! ### ferrulelaw05_RlogShared: function 7 -/
def ferrulelaw05_RlogShared.j0 : Nat → Bool → Bool → Int → Int → ByteArray → List (S36) → Int → Int → ByteArray → List (S36) → Option (Bool)
  | 0, _, _, _, _, _, _, _, _, _, _ => none
  | k + 1, x5, x15, x220000, x220001, x220002, x220003, x221000, x221001, x221002, x221003 => if x15 = true then (some x5) else ((rlog_Shared.f k x220000 x220001 x220002 x220003 x221000 x221001 x221002 x221003).bind fun t222 => (if x5 = true then ((ferruleref05_Shared.f k x220000 x220001 x220002 x220003 x221000 x221001 x221002 x221003).bind fun t223 => (if t222 = t223 then ((rlog_Shared.f k x221000 x221001 x221002 x221003 x220000 x220001 x220002 x220003).bind fun t224 => (some (t224 == t222))) else (some false))) else (some false)))
def ferrulelaw05_RlogShared.f (k : Nat) (a0_0 : Int) (a0_1 : Int) (a0_2 : ByteArray) (l0_3 : List (S36)) (a1_0 : Int) (a1_1 : Int) (a1_2 : ByteArray) (l1_3 : List (S36)) : Option (Bool) := (ferrulelaw05_shown.f).bind fun t221 => (if a0_0 > 4611686018427387903 then (ferrulelaw05_RlogShared.j0 k t221 true a0_0 a0_1 a0_2 l0_3 a1_0 a1_1 a1_2 l1_3) else (ferrulelaw05_RlogShared.j0 k t221 (decide (a1_0 > 4611686018427387903)) a0_0 a0_1 a0_2 l0_3 a1_0 a1_1 a1_2 l1_3))
theorem ferrulelaw05_RlogShared.mono_l : ∀ k, (∀ y0 y1 y2 y3 y4 y5 y6 y7 y8 y9, LeO (ferrulelaw05_RlogShared.j0 k y0 y1 y2 y3 y4 y5 y6 y7 y8 y9) (ferrulelaw05_RlogShared.j0 (k + 1) y0 y1 y2 y3 y4 y5 y6 y7 y8 y9))
  | 0 => fun _ _ _ _ _ _ _ _ _ _ r h => by simp [ferrulelaw05_RlogShared.j0] at h
  | k + 1 => by
    have ih0 := ferrulelaw05_RlogShared.mono_l k
    · intro y0 y1 y2 y3 y4 y5 y6 y7 y8 y9
      unfold ferrulelaw05_RlogShared.j0
      repeat' first
      | (with_reducible exact ih0 _ _ _ _ _ _ _ _ _ _)
      | (with_reducible exact ferruleref05_Shared.mono _ _ _ _ _ _ _ _ _)
      | (with_reducible exact rlog_Shared.mono _ _ _ _ _ _ _ _ _)
      | (with_reducible exact LeO.refl _)
      | (with_reducible exact LeO.none _)
      | (with_reducible refine LeO.ite ?_ ?_)
      | (with_reducible refine LeO.bind ?_ (fun _ => ?_))
      | exact ih0 _ _ _ _ _ _ _ _ _ _
      | exact ferruleref05_Shared.mono _ _ _ _ _ _ _ _ _
      | exact rlog_Shared.mono _ _ _ _ _ _ _ _ _
      | exact LeO.none _
      | refine LeO.ite ?_ ?_
      | refine LeO.bind ?_ (fun _ => ?_)
theorem ferrulelaw05_RlogShared.mono : ∀ a0 a1 a2 a3 a4 a5 a6 a7 k, LeO (ferrulelaw05_RlogShared.f k a0 a1 a2 a3 a4 a5 a6 a7) (ferrulelaw05_RlogShared.f (k + 1) a0 a1 a2 a3 a4 a5 a6 a7) := by
  intro a0 a1 a2 a3 a4 a5 a6 a7 k
  have ih0 := ferrulelaw05_RlogShared.mono_l k
  unfold ferrulelaw05_RlogShared.f
  repeat' first
      | (with_reducible exact ih0 _ _ _ _ _ _ _ _ _ _)
      | (with_reducible exact ferruleref05_Shared.mono _ _ _ _ _ _ _ _ _)
      | (with_reducible exact rlog_Shared.mono _ _ _ _ _ _ _ _ _)
      | (with_reducible exact LeO.refl _)
      | (with_reducible exact LeO.none _)
      | (with_reducible refine LeO.ite ?_ ?_)
      | (with_reducible refine LeO.bind ?_ (fun _ => ?_))
      | exact ih0 _ _ _ _ _ _ _ _ _ _
      | exact ferruleref05_Shared.mono _ _ _ _ _ _ _ _ _
      | exact rlog_Shared.mono _ _ _ _ _ _ _ _ _
      | exact LeO.none _
      | refine LeO.ite ?_ ?_
      | refine LeO.bind ?_ (fun _ => ?_)
set_option maxHeartbeats 8000000 in
set_option maxRecDepth 100000 in
theorem ferrulelaw05_RlogShared.calls (k : Nat) (a0_0 : Int) (a0_1 : Int) (a0_2 : ByteArray) (A0_3 : Option Addr) (c0_3 : Nat) (l0_3 : List (S36)) (a1_0 : Int) (a1_1 : Int) (a1_2 : ByteArray) (A1_3 : Option Addr) (c1_3 : Nat) (l1_3 : List (S36)) (r : Bool) (w : World) (hr0_3 : Kd.C k36 w A0_3 l0_3.length l0_3) (hc0_3 : l0_3.length ≤ c0_3) (hr1_3 : Kd.C k36 w A1_3 l1_3.length l1_3) (hc1_3 : l1_3.length ≤ c1_3) (h : ferrulelaw05_RlogShared.f k a0_0 a0_1 a0_2 l0_3 a1_0 a1_1 a1_2 l1_3 = some r) :
    Calls Try.prog 7 #[.agg #[.int .u64 a0_0, .int .u64 a0_1, .string a0_2, .slice A0_3 l0_3.length c0_3], .agg #[.int .u64 a1_0, .int .u64 a1_1, .string a1_2, .slice A1_3 l1_3.length c1_3]] w fun e w' => e = .returned (.bool r) ∧ Below w.heap.size w w' := by
  have hu25 := Try.underlying25
  have HR0_3 := Aside0.mk hr0_3
  have HC0_3 := Aside0.mk hc0_3
  clear hr0_3 hc0_3
  have HR1_3 := Aside0.mk hr1_3
  have HC1_3 := Aside0.mk hc1_3
  clear hr1_3 hc1_3
  have HB := Aside0.mk (Below.refl w.heap.size w)
  have H : ((ferrulelaw05_shown.f).bind fun t221 => (if a0_0 > 4611686018427387903 then (ferrulelaw05_RlogShared.j0 k t221 true a0_0 a0_1 a0_2 l0_3 a1_0 a1_1 a1_2 l1_3) else (ferrulelaw05_RlogShared.j0 k t221 (decide (a1_0 > 4611686018427387903)) a0_0 a0_1 a0_2 l0_3 a1_0 a1_1 a1_2 l1_3))) = some r := h
  clear h
  replace H := Option.bind_eq_some_iff.mp H
  obtain ⟨t221, A30, H⟩ := H
  replace H : (if a0_0 > 4611686018427387903 then (ferrulelaw05_RlogShared.j0 k t221 true a0_0 a0_1 a0_2 l0_3 a1_0 a1_1 a1_2 l1_3) else (ferrulelaw05_RlogShared.j0 k t221 (decide (a1_0 > 4611686018427387903)) a0_0 a0_1 a0_2 l0_3 a1_0 a1_1 a1_2 l1_3)) = some r := H
  have A3 := Aside0.mk A30
  clear A30
  have HC4 := Aside0.mk H
  clear H
  go_enter Try.func7, Try.ntmps7
  go_upto_region 2 with (first | ((with_reducible refine gate_dst (N := 2) rfl ?_); refine box_event ?hg (N := 2) ?hd (cs := #[.int .u64 a0_0, .int .u64 a0_1, .string a0_2, .slice A0_3 l0_3.length c0_3]) (t := 25) ?hr ?_; (case hd => rfl); (case hg => rfl); (case hr => first | (go_simp; done) | (go_simp; rfl)); intro gb219 hg w5 hbox hb; have n0_ := Aside0.mk (below_step (by repeat (first | (with_reducible first | exact HB.out | apply below_alloc | apply pw_below_drewN | apply below_drew1) | exact HB.out)) hb); have n1_ := Aside0.mk (hbox); have n2_ := Aside0.mk ((by rw [hg]; exact (below_size (by repeat (first | (with_reducible first | exact HB.out | apply below_alloc | apply pw_below_drewN | apply below_drew1) | exact HB.out))) : w.heap.size ≤ gb219)); have n3_ := Aside0.mk ((by rw [hg]; exact (below_size (by repeat (first | (with_reducible first | exact HB.out | apply below_alloc | apply pw_below_drewN | apply below_drew1) | exact HB.out))) : w.heap.size ≤ gb219)); clear HB; have HB := n0_; have BK219 := n1_; have GW219 := n2_; have GE219 := n3_; clear n0_ n1_ n2_ n3_; clear hb hbox hg) | ((with_reducible refine gate_dst (N := 3) rfl ?_); refine box_event ?hg (N := 3) ?hd (cs := #[.int .u64 a1_0, .int .u64 a1_1, .string a1_2, .slice A1_3 l1_3.length c1_3]) (t := 25) ?hr ?_; (case hd => rfl); (case hg => rfl); (case hr => first | (go_simp; done) | (go_simp; rfl)); intro gb220 hg w6 hbox hb; have n0_ := Aside0.mk (blk_below (g := gb219) (o := .cells #[.int .u64 a0_0, .int .u64 a0_1, .string a0_2, .slice A0_3 l0_3.length c0_3] 25 (0, 0)) (by (with_reducible repeat (first | refine blk_drewN ?_ _ | refine blk_drew ?_ | refine blk_alloc ?_ _)); exact BK219.out) hb); have n1_ := Aside0.mk (below_step (by repeat (first | (with_reducible first | exact HB.out | apply below_alloc | apply pw_below_drewN | apply below_drew1 | refine below_set ?_ GE219.out) | exact HB.out)) hb); have n2_ := Aside0.mk (hbox); have n3_ := Aside0.mk ((by rw [hg]; exact (below_size (by repeat (first | (with_reducible first | exact HB.out | apply below_alloc | apply pw_below_drewN | apply below_drew1 | refine below_set ?_ GE219.out) | exact HB.out))) : w.heap.size ≤ gb220)); have n4_ := Aside0.mk ((by rw [hg]; exact (below_size (by repeat (first | (with_reducible first | exact HB.out | apply below_alloc | apply pw_below_drewN | apply below_drew1 | refine below_set ?_ GE219.out) | exact HB.out))) : w.heap.size ≤ gb220)); have n5_ := Aside0.mk ((by rw [hg]; exact Nat.ne_of_lt (blk_lt (g := gb219) (o := .cells #[.int .u64 a0_0, .int .u64 a0_1, .string a0_2, .slice A0_3 l0_3.length c0_3] 25 (0, 0)) (by (with_reducible repeat (first | refine blk_drewN ?_ _ | refine blk_drew ?_ | refine blk_alloc ?_ _)); exact BK219.out)) : gb219 ≠ gb220)); have n6_ := Aside0.mk ((by rw [hg]; exact Nat.ne_of_gt (blk_lt (g := gb219) (o := .cells #[.int .u64 a0_0, .int .u64 a0_1, .string a0_2, .slice A0_3 l0_3.length c0_3] 25 (0, 0)) (by (with_reducible repeat (first | refine blk_drewN ?_ _ | refine blk_drew ?_ | refine blk_alloc ?_ _)); exact BK219.out)) : gb220 ≠ gb219)); clear BK219; clear HB; have BK219 := n0_; have HB := n1_; have BK220 := n2_; have GW220 := n3_; have GE220 := n4_; have NB219_220 := n5_; have NB220_219 := n6_; clear n0_ n1_ n2_ n3_ n4_ n5_ n6_; clear hb hbox hg) | ((with_reducible refine gate_callee (f := 9) rfl ?_); refine goesL_ (some 7) rfl rfl Try.func9 (by kernel_rfl) rfl #[] rfl (by (try simp only [List.map_toArray, List.map_cons, List.map_nil]); first | done | rfl | (simp only [List.length_drop, List.length_take]; rfl)) ?_; (with_reducible refine (ferrulelaw05_shown.calls  t221 _ A3.out).mono ?_); rintro e w7 ⟨rfl, hb⟩; refine ⟨_, rfl, ?_⟩; have n0_ := Aside0.mk (blk_below (g := gb219) (o := .cells #[.int .u64 a0_0, .int .u64 a0_1, .string a0_2, .slice A0_3 l0_3.length c0_3] 25 (0, 0)) (by (with_reducible repeat (first | refine blk_drewN ?_ _ | refine blk_drew ?_ | refine blk_alloc ?_ _)); exact BK219.out) hb); have n1_ := Aside0.mk (blk_below (g := gb220) (o := .cells #[.int .u64 a1_0, .int .u64 a1_1, .string a1_2, .slice A1_3 l1_3.length c1_3] 25 (0, 0)) (by (with_reducible repeat (first | refine blk_drewN ?_ _ | refine blk_drew ?_ | refine blk_alloc ?_ _)); exact BK220.out) hb); have n2_ := Aside0.mk (below_step (by repeat (first | (with_reducible first | exact HB.out | apply below_alloc | apply pw_below_drewN | apply below_drew1 | refine below_set ?_ GE219.out | refine below_set ?_ GE220.out) | exact HB.out)) hb); clear BK219; clear BK220; clear HB; have BK219 := n0_; have BK220 := n1_; have HB := n2_; clear n0_ n1_ n2_; (try clear hb); (try clear hb2); (try clear hk); (try clear hi)))
  (try simp only [Act.put, List.setIfInBounds_toArray, List.set_cons_zero, List.set_cons_succ])
  go_cut [15] (fun v15 wc => ∃ (kq : Nat) (x15_3 : Bool), v15 = .bool x15_3 ∧ Aside0 (ferrulelaw05_RlogShared.j0 kq t221 x15_3 a0_0 a0_1 a0_2 l0_3 a1_0 a1_1 a1_2 l1_3 = some r) ∧ Aside0 (kq ≤ k) ∧ Aside0 (wc.heap[gb219]? = some (.cells #[.int .u64 a0_0, .int .u64 a0_1, .string a0_2, (.slice A0_3 l0_3.length c0_3)] 25 (0, 0))) ∧ Aside0 (wc.heap[gb220]? = some (.cells #[.int .u64 a1_0, .int .u64 a1_1, .string a1_2, (.slice A1_3 l1_3.length c1_3)] 25 (0, 0))) ∧ Aside0 (Below w.heap.size w wc))
  case first =>
    have H := HC4.out
    clear HC4
    by_cases c8 : a0_0 > 4611686018427387903
    · rw [if_pos c8] at H
      have c8b0 : decide (4611686018427387903 < a0_0) = true := decide_eq_true c8
      clear c8
      (first | rw [c8b0] | (simp only [i64_w, i32_w]; rw [c8b0]) | skip)
      have H' := Aside0.mk H
      clear H
      have hnb9 := NB219_220.out
      have hnc9 := NB220_219.out
      have hcz10_0 : w7.cell? ⟨gb219, 0, none⟩ = some (.int .u64 a0_0) := (blk_cell BK219.out 0).trans rfl
      have hcz10_1 : w7.cell? ⟨gb219, 1, none⟩ = some (.int .u64 a0_1) := (blk_cell BK219.out 1).trans rfl
      have hcz10_2 : w7.cell? ⟨gb219, 2, none⟩ = some (.string a0_2) := (blk_cell BK219.out 2).trans rfl
      have hcz10_3 : w7.cell? ⟨gb219, 3, none⟩ = some (.slice A0_3 l0_3.length c0_3) := (blk_cell BK219.out 3).trans rfl
      have hfz10_0 := blk_frozen BK219.out 0
      have hfz10_1 := blk_frozen BK219.out 1
      have hfz10_2 := blk_frozen BK219.out 2
      have hfz10_3 := blk_frozen BK219.out 3
      go_wp2
      go_meet
      case rel => exact ⟨_, (true), (by first | rfl | (simp; done) | (simp [*]; done)), H', ⟨by first | omega | exact Nat.le_refl _⟩, ⟨by (with_reducible repeat (first | refine blk_drewN ?_ _ | refine blk_drew ?_ | refine blk_alloc ?_ _)); exact BK219.out⟩, ⟨by (with_reducible repeat (first | refine blk_drewN ?_ _ | refine blk_drew ?_ | refine blk_alloc ?_ _)); exact BK220.out⟩, ⟨by repeat (first | (with_reducible first | exact HB.out | apply below_alloc | apply pw_below_drewN | apply below_drew1 | refine below_set ?_ GE219.out | refine below_set ?_ GE220.out) | exact HB.out)⟩⟩
    · rw [if_neg c8] at H
      have c8b0 : decide (4611686018427387903 < a0_0) = false := decide_eq_false c8
      clear c8
      (first | rw [c8b0] | (simp only [i64_w, i32_w]; rw [c8b0]) | skip)
      have H' := Aside0.mk H
      clear H
      have hnb11 := NB219_220.out
      have hnc11 := NB220_219.out
      have hcz12_0 : w7.cell? ⟨gb219, 0, none⟩ = some (.int .u64 a0_0) := (blk_cell BK219.out 0).trans rfl
      have hcz12_1 : w7.cell? ⟨gb219, 1, none⟩ = some (.int .u64 a0_1) := (blk_cell BK219.out 1).trans rfl
      have hcz12_2 : w7.cell? ⟨gb219, 2, none⟩ = some (.string a0_2) := (blk_cell BK219.out 2).trans rfl
      have hcz12_3 : w7.cell? ⟨gb219, 3, none⟩ = some (.slice A0_3 l0_3.length c0_3) := (blk_cell BK219.out 3).trans rfl
      have hfz12_0 := blk_frozen BK219.out 0
      have hfz12_1 := blk_frozen BK219.out 1
      have hfz12_2 := blk_frozen BK219.out 2
      have hfz12_3 := blk_frozen BK219.out 3
      have hcz13_0 : w7.cell? ⟨gb220, 0, none⟩ = some (.int .u64 a1_0) := (blk_cell BK220.out 0).trans rfl
      have hcz13_1 : w7.cell? ⟨gb220, 1, none⟩ = some (.int .u64 a1_1) := (blk_cell BK220.out 1).trans rfl
      have hcz13_2 : w7.cell? ⟨gb220, 2, none⟩ = some (.string a1_2) := (blk_cell BK220.out 2).trans rfl
      have hcz13_3 : w7.cell? ⟨gb220, 3, none⟩ = some (.slice A1_3 l1_3.length c1_3) := (blk_cell BK220.out 3).trans rfl
      have hfz13_0 := blk_frozen BK220.out 0
      have hfz13_1 := blk_frozen BK220.out 1
      have hfz13_2 := blk_frozen BK220.out 2
      have hfz13_3 := blk_frozen BK220.out 3
      go_wp2
      go_meet
      case rel => exact ⟨_, (decide (a1_0 > 4611686018427387903)), (by first | rfl | (simp; done) | (simp [*]; done)), H', ⟨by first | omega | exact Nat.le_refl _⟩, ⟨by (with_reducible repeat (first | refine blk_drewN ?_ _ | refine blk_drew ?_ | refine blk_alloc ?_ _)); exact BK219.out⟩, ⟨by (with_reducible repeat (first | refine blk_drewN ?_ _ | refine blk_drew ?_ | refine blk_alloc ?_ _)); exact BK220.out⟩, ⟨by repeat (first | (with_reducible first | exact HB.out | apply below_alloc | apply pw_below_drewN | apply below_drew1 | refine below_set ?_ GE219.out | refine below_set ?_ GE220.out) | exact HB.out)⟩⟩
  case rest =>
    clear HC4
    try clear c1
    try clear p2
    try clear c7
    try clear c8
    try clear c8b0
    try clear c9
    try clear c11
    try clear hcz10_0
    try clear hcz10_1
    try clear hcz10_2
    try clear hcz10_3
    try clear hcz12_0
    try clear hcz12_1
    try clear hcz12_2
    try clear hcz12_3
    try clear hcz13_0
    try clear hcz13_1
    try clear hcz13_2
    try clear hcz13_3
    try clear hfz10_0
    try clear hfz10_1
    try clear hfz10_2
    try clear hfz10_3
    try clear hfz12_0
    try clear hfz12_1
    try clear hfz12_2
    try clear hfz12_3
    try clear hfz13_0
    try clear hfz13_1
    try clear hfz13_2
    try clear hfz13_3
    obtain ⟨kq, x15_3, rfl, HA, HJ3, BK219, BK220, HB⟩ := hcut
    cases kq with
    | zero => exact absurd HA.out (by simp [ferrulelaw05_RlogShared.j0])
    | succ kj3 =>
      have H := HA.out
      clear HA
      simp only [ferrulelaw05_RlogShared.j0] at H
      by_cases c14 : x15_3 = true
      · subst c14
        have H1 : (some t221) = some r := by rw [if_pos rfl] at H; exact H
        clear H
        have H := H1
        clear H1
        obtain rfl := Option.some.inj H
        go_wp2
        go_ret
        exact ⟨by first | rfl | (simp [errW_none, errW_some] <;> rfl) | (simp [*, errW_none, errW_some] <;> rfl), by repeat (first | (with_reducible first | exact HB.out | apply below_alloc | apply pw_below_drewN | apply below_drew1 | refine below_set ?_ GE219.out | refine below_set ?_ GE220.out) | exact HB.out)⟩
      · replace c14 := Bool.eq_false_iff.mpr c14
        subst c14
        have H1 : ((rlog_Shared.f kj3 a0_0 a0_1 a0_2 l0_3 a1_0 a1_1 a1_2 l1_3).bind fun t222 => (if t221 = true then ((ferruleref05_Shared.f kj3 a0_0 a0_1 a0_2 l0_3 a1_0 a1_1 a1_2 l1_3).bind fun t223 => (if t222 = t223 then ((rlog_Shared.f kj3 a1_0 a1_1 a1_2 l1_3 a0_0 a0_1 a0_2 l0_3).bind fun t224 => (some (t224 == t222))) else (some false))) else (some false))) = some r := by rw [if_neg (show ¬ (false = true) by decide)] at H; exact H
        clear H
        have H := H1
        clear H1
        replace H := Option.bind_eq_some_iff.mp H
        obtain ⟨t222, A150, H⟩ := H
        replace H : (if t221 = true then ((ferruleref05_Shared.f kj3 a0_0 a0_1 a0_2 l0_3 a1_0 a1_1 a1_2 l1_3).bind fun t223 => (if t222 = t223 then ((rlog_Shared.f kj3 a1_0 a1_1 a1_2 l1_3 a0_0 a0_1 a0_2 l0_3).bind fun t224 => (some (t224 == t222))) else (some false))) else (some false)) = some r := H
        have A15 := Aside0.mk A150
        clear A150
        by_cases c16 : t221 = true
        · subst c16
          have H1 : ((ferruleref05_Shared.f kj3 a0_0 a0_1 a0_2 l0_3 a1_0 a1_1 a1_2 l1_3).bind fun t223 => (if t222 = t223 then ((rlog_Shared.f kj3 a1_0 a1_1 a1_2 l1_3 a0_0 a0_1 a0_2 l0_3).bind fun t224 => (some (t224 == t222))) else (some false))) = some r := by rw [if_pos rfl] at H; exact H
          clear H
          have H := H1
          clear H1
          replace H := Option.bind_eq_some_iff.mp H
          obtain ⟨t223, A170, H⟩ := H
          replace H : (if t222 = t223 then ((rlog_Shared.f kj3 a1_0 a1_1 a1_2 l1_3 a0_0 a0_1 a0_2 l0_3).bind fun t224 => (some (t224 == t222))) else (some false)) = some r := H
          have A17 := Aside0.mk A170
          clear A170
          by_cases c18 : t222 = t223
          · rw [if_pos c18] at H
            have c18b0 : (t222 == t223) = true := beq_iff_eq.mpr c18
            have c18b1 : (t222 != t223) = false := bne_eq_false_iff_eq.mpr c18
            clear c18
            replace H := Option.bind_eq_some_iff.mp H
            obtain ⟨t224, A190, H⟩ := H
            replace H : (some (t224 == t222)) = some r := H
            have A19 := Aside0.mk A190
            clear A190
            obtain rfl := Option.some.inj H
            have hnb20 := NB219_220.out
            have hnc20 := NB220_219.out
            have hcz21_0 : wc.cell? ⟨gb219, 0, none⟩ = some (.int .u64 a0_0) := (blk_cell BK219.out 0).trans rfl
            have hcz21_1 : wc.cell? ⟨gb219, 1, none⟩ = some (.int .u64 a0_1) := (blk_cell BK219.out 1).trans rfl
            have hcz21_2 : wc.cell? ⟨gb219, 2, none⟩ = some (.string a0_2) := (blk_cell BK219.out 2).trans rfl
            have hcz21_3 : wc.cell? ⟨gb219, 3, none⟩ = some (.slice A0_3 l0_3.length c0_3) := (blk_cell BK219.out 3).trans rfl
            have hfz21_0 := blk_frozen BK219.out 0
            have hfz21_1 := blk_frozen BK219.out 1
            have hfz21_2 := blk_frozen BK219.out 2
            have hfz21_3 := blk_frozen BK219.out 3
            have hcz22_0 : wc.cell? ⟨gb220, 0, none⟩ = some (.int .u64 a1_0) := (blk_cell BK220.out 0).trans rfl
            have hcz22_1 : wc.cell? ⟨gb220, 1, none⟩ = some (.int .u64 a1_1) := (blk_cell BK220.out 1).trans rfl
            have hcz22_2 : wc.cell? ⟨gb220, 2, none⟩ = some (.string a1_2) := (blk_cell BK220.out 2).trans rfl
            have hcz22_3 : wc.cell? ⟨gb220, 3, none⟩ = some (.slice A1_3 l1_3.length c1_3) := (blk_cell BK220.out 3).trans rfl
            have hfz22_0 := blk_frozen BK220.out 0
            have hfz22_1 := blk_frozen BK220.out 1
            have hfz22_2 := blk_frozen BK220.out 2
            have hfz22_3 := blk_frozen BK220.out 3
            go_wp2_with (first | ((with_reducible refine gate_callee (f := 22) rfl ?_); refine goesL_ (some 19) rfl rfl Try.func22 (by kernel_rfl) rfl #[.agg #[.int .u64 a0_0, .int .u64 a0_1, .string a0_2, .slice A0_3 l0_3.length c0_3], .agg #[.int .u64 a1_0, .int .u64 a1_1, .string a1_2, .slice A1_3 l1_3.length c1_3]] rfl (by (try simp only [List.map_toArray, List.map_cons, List.map_nil]); first | done | rfl | (simp only [List.length_drop, List.length_take]; rfl)) ?_; (with_reducible refine (rlog_Shared.calls kj3 a0_0 a0_1 a0_2 _ _ l0_3 a1_0 a1_1 a1_2 _ _ l1_3 t222 _ ?side1 ?side2 ?side3 ?side4 A15.out).mono ?_); (case side1 => repeat (first | exact (Kd.C_below HR0_3.out HB.out) | (with_reducible refine Kd.C_alloc ?_ _) | (with_reducible refine Kd.C_drewN ?_ _) | (with_reducible refine Kd.C_drew ?_))); (case side2 => exact HC0_3.out); (case side3 => repeat (first | exact (Kd.C_below HR1_3.out HB.out) | (with_reducible refine Kd.C_alloc ?_ _) | (with_reducible refine Kd.C_drewN ?_ _) | (with_reducible refine Kd.C_drew ?_))); (case side4 => exact HC1_3.out); rintro e w23 ⟨rfl, hb⟩; refine ⟨_, rfl, ?_⟩; have n0_ := Aside0.mk (blk_below (g := gb219) (o := .cells #[.int .u64 a0_0, .int .u64 a0_1, .string a0_2, .slice A0_3 l0_3.length c0_3] 25 (0, 0)) (by (with_reducible repeat (first | refine blk_drewN ?_ _ | refine blk_drew ?_ | refine blk_alloc ?_ _)); exact BK219.out) hb); have n1_ := Aside0.mk (blk_below (g := gb220) (o := .cells #[.int .u64 a1_0, .int .u64 a1_1, .string a1_2, .slice A1_3 l1_3.length c1_3] 25 (0, 0)) (by (with_reducible repeat (first | refine blk_drewN ?_ _ | refine blk_drew ?_ | refine blk_alloc ?_ _)); exact BK220.out) hb); have n2_ := Aside0.mk (below_step (by repeat (first | (with_reducible first | exact HB.out | apply below_alloc | apply pw_below_drewN | apply below_drew1 | refine below_set ?_ GE219.out | refine below_set ?_ GE220.out) | exact HB.out)) hb); clear BK219; clear BK220; clear HB; have BK219 := n0_; have BK220 := n1_; have HB := n2_; clear n0_ n1_ n2_; (try clear hb); (try clear hb2); (try clear hk); (try clear hi); have hcz24_0 : w23.cell? ⟨gb219, 0, none⟩ = some (.int .u64 a0_0) := (blk_cell BK219.out 0).trans rfl; have hcz24_1 : w23.cell? ⟨gb219, 1, none⟩ = some (.int .u64 a0_1) := (blk_cell BK219.out 1).trans rfl; have hcz24_2 : w23.cell? ⟨gb219, 2, none⟩ = some (.string a0_2) := (blk_cell BK219.out 2).trans rfl; have hcz24_3 : w23.cell? ⟨gb219, 3, none⟩ = some (.slice A0_3 l0_3.length c0_3) := (blk_cell BK219.out 3).trans rfl; have hfz24_0 := blk_frozen BK219.out 0; have hfz24_1 := blk_frozen BK219.out 1; have hfz24_2 := blk_frozen BK219.out 2; have hfz24_3 := blk_frozen BK219.out 3; have hcz25_0 : w23.cell? ⟨gb220, 0, none⟩ = some (.int .u64 a1_0) := (blk_cell BK220.out 0).trans rfl; have hcz25_1 : w23.cell? ⟨gb220, 1, none⟩ = some (.int .u64 a1_1) := (blk_cell BK220.out 1).trans rfl; have hcz25_2 : w23.cell? ⟨gb220, 2, none⟩ = some (.string a1_2) := (blk_cell BK220.out 2).trans rfl; have hcz25_3 : w23.cell? ⟨gb220, 3, none⟩ = some (.slice A1_3 l1_3.length c1_3) := (blk_cell BK220.out 3).trans rfl; have hfz25_0 := blk_frozen BK220.out 0; have hfz25_1 := blk_frozen BK220.out 1; have hfz25_2 := blk_frozen BK220.out 2; have hfz25_3 := blk_frozen BK220.out 3) | (go_at_call 23; (with_reducible refine (ferruleref05_Shared.calls kj3 a0_0 a0_1 a0_2 _ _ l0_3 a1_0 a1_1 a1_2 _ _ l1_3 t223 _ ?side1 ?side2 ?side3 ?side4 A17.out).mono ?_); (case side1 => repeat (first | exact (Kd.C_below HR0_3.out HB.out) | (with_reducible refine Kd.C_alloc ?_ _) | (with_reducible refine Kd.C_drewN ?_ _) | (with_reducible refine Kd.C_drew ?_))); (case side2 => exact HC0_3.out); (case side3 => repeat (first | exact (Kd.C_below HR1_3.out HB.out) | (with_reducible refine Kd.C_alloc ?_ _) | (with_reducible refine Kd.C_drewN ?_ _) | (with_reducible refine Kd.C_drew ?_))); (case side4 => exact HC1_3.out); rintro e w26 ⟨rfl, hb⟩; have n0_ := Aside0.mk (blk_below (g := gb219) (o := .cells #[.int .u64 a0_0, .int .u64 a0_1, .string a0_2, .slice A0_3 l0_3.length c0_3] 25 (0, 0)) (by (with_reducible repeat (first | refine blk_drewN ?_ _ | refine blk_drew ?_ | refine blk_alloc ?_ _)); exact BK219.out) hb); have n1_ := Aside0.mk (blk_below (g := gb220) (o := .cells #[.int .u64 a1_0, .int .u64 a1_1, .string a1_2, .slice A1_3 l1_3.length c1_3] 25 (0, 0)) (by (with_reducible repeat (first | refine blk_drewN ?_ _ | refine blk_drew ?_ | refine blk_alloc ?_ _)); exact BK220.out) hb); have n2_ := Aside0.mk (below_step (by repeat (first | (with_reducible first | exact HB.out | apply below_alloc | apply pw_below_drewN | apply below_drew1 | refine below_set ?_ GE219.out | refine below_set ?_ GE220.out) | exact HB.out)) hb); clear BK219; clear BK220; clear HB; have BK219 := n0_; have BK220 := n1_; have HB := n2_; clear n0_ n1_ n2_; (try clear hb); (try clear hb2); (try clear hk); (try clear hi); have hcz27_0 : w26.cell? ⟨gb220, 0, none⟩ = some (.int .u64 a1_0) := (blk_cell BK220.out 0).trans rfl; have hcz27_1 : w26.cell? ⟨gb220, 1, none⟩ = some (.int .u64 a1_1) := (blk_cell BK220.out 1).trans rfl; have hcz27_2 : w26.cell? ⟨gb220, 2, none⟩ = some (.string a1_2) := (blk_cell BK220.out 2).trans rfl; have hcz27_3 : w26.cell? ⟨gb220, 3, none⟩ = some (.slice A1_3 l1_3.length c1_3) := (blk_cell BK220.out 3).trans rfl; have hfz27_0 := blk_frozen BK220.out 0; have hfz27_1 := blk_frozen BK220.out 1; have hfz27_2 := blk_frozen BK220.out 2; have hfz27_3 := blk_frozen BK220.out 3; have hcz28_0 : w26.cell? ⟨gb219, 0, none⟩ = some (.int .u64 a0_0) := (blk_cell BK219.out 0).trans rfl; have hcz28_1 : w26.cell? ⟨gb219, 1, none⟩ = some (.int .u64 a0_1) := (blk_cell BK219.out 1).trans rfl; have hcz28_2 : w26.cell? ⟨gb219, 2, none⟩ = some (.string a0_2) := (blk_cell BK219.out 2).trans rfl; have hcz28_3 : w26.cell? ⟨gb219, 3, none⟩ = some (.slice A0_3 l0_3.length c0_3) := (blk_cell BK219.out 3).trans rfl; have hfz28_0 := blk_frozen BK219.out 0; have hfz28_1 := blk_frozen BK219.out 1; have hfz28_2 := blk_frozen BK219.out 2; have hfz28_3 := blk_frozen BK219.out 3) | (go_at_call 22; (with_reducible refine (rlog_Shared.calls kj3 a1_0 a1_1 a1_2 _ _ l1_3 a0_0 a0_1 a0_2 _ _ l0_3 t224 _ ?side1 ?side2 ?side3 ?side4 A19.out).mono ?_); (case side1 => repeat (first | exact (Kd.C_below HR1_3.out HB.out) | (with_reducible refine Kd.C_alloc ?_ _) | (with_reducible refine Kd.C_drewN ?_ _) | (with_reducible refine Kd.C_drew ?_))); (case side2 => exact HC1_3.out); (case side3 => repeat (first | exact (Kd.C_below HR0_3.out HB.out) | (with_reducible refine Kd.C_alloc ?_ _) | (with_reducible refine Kd.C_drewN ?_ _) | (with_reducible refine Kd.C_drew ?_))); (case side4 => exact HC0_3.out); rintro e w29 ⟨rfl, hb⟩; have n0_ := Aside0.mk (blk_below (g := gb219) (o := .cells #[.int .u64 a0_0, .int .u64 a0_1, .string a0_2, .slice A0_3 l0_3.length c0_3] 25 (0, 0)) (by (with_reducible repeat (first | refine blk_drewN ?_ _ | refine blk_drew ?_ | refine blk_alloc ?_ _)); exact BK219.out) hb); have n1_ := Aside0.mk (blk_below (g := gb220) (o := .cells #[.int .u64 a1_0, .int .u64 a1_1, .string a1_2, .slice A1_3 l1_3.length c1_3] 25 (0, 0)) (by (with_reducible repeat (first | refine blk_drewN ?_ _ | refine blk_drew ?_ | refine blk_alloc ?_ _)); exact BK220.out) hb); have n2_ := Aside0.mk (below_step (by repeat (first | (with_reducible first | exact HB.out | apply below_alloc | apply pw_below_drewN | apply below_drew1 | refine below_set ?_ GE219.out | refine below_set ?_ GE220.out) | exact HB.out)) hb); clear BK219; clear BK220; clear HB; have BK219 := n0_; have BK220 := n1_; have HB := n2_; clear n0_ n1_ n2_; (try clear hb); (try clear hb2); (try clear hk); (try clear hi)))
            go_ret
            exact ⟨by first | rfl | (simp [errW_none, errW_some] <;> rfl) | (simp [*, errW_none, errW_some] <;> rfl), by repeat (first | (with_reducible first | exact HB.out | apply below_alloc | apply pw_below_drewN | apply below_drew1 | refine below_set ?_ GE219.out | refine below_set ?_ GE220.out) | exact HB.out)⟩
          · rw [if_neg c18] at H
            have c18b0 : (t222 == t223) = false := beq_eq_false_iff_ne.mpr c18
            have c18b1 : (t222 != t223) = true := bne_iff_ne.mpr c18
            obtain rfl := Option.some.inj H
            have hnb30 := NB219_220.out
            have hnc30 := NB220_219.out
            have hcz31_0 : wc.cell? ⟨gb219, 0, none⟩ = some (.int .u64 a0_0) := (blk_cell BK219.out 0).trans rfl
            have hcz31_1 : wc.cell? ⟨gb219, 1, none⟩ = some (.int .u64 a0_1) := (blk_cell BK219.out 1).trans rfl
            have hcz31_2 : wc.cell? ⟨gb219, 2, none⟩ = some (.string a0_2) := (blk_cell BK219.out 2).trans rfl
            have hcz31_3 : wc.cell? ⟨gb219, 3, none⟩ = some (.slice A0_3 l0_3.length c0_3) := (blk_cell BK219.out 3).trans rfl
            have hfz31_0 := blk_frozen BK219.out 0
            have hfz31_1 := blk_frozen BK219.out 1
            have hfz31_2 := blk_frozen BK219.out 2
            have hfz31_3 := blk_frozen BK219.out 3
            have hcz32_0 : wc.cell? ⟨gb220, 0, none⟩ = some (.int .u64 a1_0) := (blk_cell BK220.out 0).trans rfl
            have hcz32_1 : wc.cell? ⟨gb220, 1, none⟩ = some (.int .u64 a1_1) := (blk_cell BK220.out 1).trans rfl
            have hcz32_2 : wc.cell? ⟨gb220, 2, none⟩ = some (.string a1_2) := (blk_cell BK220.out 2).trans rfl
            have hcz32_3 : wc.cell? ⟨gb220, 3, none⟩ = some (.slice A1_3 l1_3.length c1_3) := (blk_cell BK220.out 3).trans rfl
            have hfz32_0 := blk_frozen BK220.out 0
            have hfz32_1 := blk_frozen BK220.out 1
            have hfz32_2 := blk_frozen BK220.out 2
            have hfz32_3 := blk_frozen BK220.out 3
            go_wp2_with (first | ((with_reducible refine gate_callee (f := 22) rfl ?_); refine goesL_ (some 19) rfl rfl Try.func22 (by kernel_rfl) rfl #[.agg #[.int .u64 a0_0, .int .u64 a0_1, .string a0_2, .slice A0_3 l0_3.length c0_3], .agg #[.int .u64 a1_0, .int .u64 a1_1, .string a1_2, .slice A1_3 l1_3.length c1_3]] rfl (by (try simp only [List.map_toArray, List.map_cons, List.map_nil]); first | done | rfl | (simp only [List.length_drop, List.length_take]; rfl)) ?_; (with_reducible refine (rlog_Shared.calls kj3 a0_0 a0_1 a0_2 _ _ l0_3 a1_0 a1_1 a1_2 _ _ l1_3 t222 _ ?side1 ?side2 ?side3 ?side4 A15.out).mono ?_); (case side1 => repeat (first | exact (Kd.C_below HR0_3.out HB.out) | (with_reducible refine Kd.C_alloc ?_ _) | (with_reducible refine Kd.C_drewN ?_ _) | (with_reducible refine Kd.C_drew ?_))); (case side2 => exact HC0_3.out); (case side3 => repeat (first | exact (Kd.C_below HR1_3.out HB.out) | (with_reducible refine Kd.C_alloc ?_ _) | (with_reducible refine Kd.C_drewN ?_ _) | (with_reducible refine Kd.C_drew ?_))); (case side4 => exact HC1_3.out); rintro e w33 ⟨rfl, hb⟩; refine ⟨_, rfl, ?_⟩; have n0_ := Aside0.mk (blk_below (g := gb219) (o := .cells #[.int .u64 a0_0, .int .u64 a0_1, .string a0_2, .slice A0_3 l0_3.length c0_3] 25 (0, 0)) (by (with_reducible repeat (first | refine blk_drewN ?_ _ | refine blk_drew ?_ | refine blk_alloc ?_ _)); exact BK219.out) hb); have n1_ := Aside0.mk (blk_below (g := gb220) (o := .cells #[.int .u64 a1_0, .int .u64 a1_1, .string a1_2, .slice A1_3 l1_3.length c1_3] 25 (0, 0)) (by (with_reducible repeat (first | refine blk_drewN ?_ _ | refine blk_drew ?_ | refine blk_alloc ?_ _)); exact BK220.out) hb); have n2_ := Aside0.mk (below_step (by repeat (first | (with_reducible first | exact HB.out | apply below_alloc | apply pw_below_drewN | apply below_drew1 | refine below_set ?_ GE219.out | refine below_set ?_ GE220.out) | exact HB.out)) hb); clear BK219; clear BK220; clear HB; have BK219 := n0_; have BK220 := n1_; have HB := n2_; clear n0_ n1_ n2_; (try clear hb); (try clear hb2); (try clear hk); (try clear hi); have hcz34_0 : w33.cell? ⟨gb219, 0, none⟩ = some (.int .u64 a0_0) := (blk_cell BK219.out 0).trans rfl; have hcz34_1 : w33.cell? ⟨gb219, 1, none⟩ = some (.int .u64 a0_1) := (blk_cell BK219.out 1).trans rfl; have hcz34_2 : w33.cell? ⟨gb219, 2, none⟩ = some (.string a0_2) := (blk_cell BK219.out 2).trans rfl; have hcz34_3 : w33.cell? ⟨gb219, 3, none⟩ = some (.slice A0_3 l0_3.length c0_3) := (blk_cell BK219.out 3).trans rfl; have hfz34_0 := blk_frozen BK219.out 0; have hfz34_1 := blk_frozen BK219.out 1; have hfz34_2 := blk_frozen BK219.out 2; have hfz34_3 := blk_frozen BK219.out 3; have hcz35_0 : w33.cell? ⟨gb220, 0, none⟩ = some (.int .u64 a1_0) := (blk_cell BK220.out 0).trans rfl; have hcz35_1 : w33.cell? ⟨gb220, 1, none⟩ = some (.int .u64 a1_1) := (blk_cell BK220.out 1).trans rfl; have hcz35_2 : w33.cell? ⟨gb220, 2, none⟩ = some (.string a1_2) := (blk_cell BK220.out 2).trans rfl; have hcz35_3 : w33.cell? ⟨gb220, 3, none⟩ = some (.slice A1_3 l1_3.length c1_3) := (blk_cell BK220.out 3).trans rfl; have hfz35_0 := blk_frozen BK220.out 0; have hfz35_1 := blk_frozen BK220.out 1; have hfz35_2 := blk_frozen BK220.out 2; have hfz35_3 := blk_frozen BK220.out 3) | (go_at_call 23; (with_reducible refine (ferruleref05_Shared.calls kj3 a0_0 a0_1 a0_2 _ _ l0_3 a1_0 a1_1 a1_2 _ _ l1_3 t223 _ ?side1 ?side2 ?side3 ?side4 A17.out).mono ?_); (case side1 => repeat (first | exact (Kd.C_below HR0_3.out HB.out) | (with_reducible refine Kd.C_alloc ?_ _) | (with_reducible refine Kd.C_drewN ?_ _) | (with_reducible refine Kd.C_drew ?_))); (case side2 => exact HC0_3.out); (case side3 => repeat (first | exact (Kd.C_below HR1_3.out HB.out) | (with_reducible refine Kd.C_alloc ?_ _) | (with_reducible refine Kd.C_drewN ?_ _) | (with_reducible refine Kd.C_drew ?_))); (case side4 => exact HC1_3.out); rintro e w36 ⟨rfl, hb⟩; have n0_ := Aside0.mk (blk_below (g := gb219) (o := .cells #[.int .u64 a0_0, .int .u64 a0_1, .string a0_2, .slice A0_3 l0_3.length c0_3] 25 (0, 0)) (by (with_reducible repeat (first | refine blk_drewN ?_ _ | refine blk_drew ?_ | refine blk_alloc ?_ _)); exact BK219.out) hb); have n1_ := Aside0.mk (blk_below (g := gb220) (o := .cells #[.int .u64 a1_0, .int .u64 a1_1, .string a1_2, .slice A1_3 l1_3.length c1_3] 25 (0, 0)) (by (with_reducible repeat (first | refine blk_drewN ?_ _ | refine blk_drew ?_ | refine blk_alloc ?_ _)); exact BK220.out) hb); have n2_ := Aside0.mk (below_step (by repeat (first | (with_reducible first | exact HB.out | apply below_alloc | apply pw_below_drewN | apply below_drew1 | refine below_set ?_ GE219.out | refine below_set ?_ GE220.out) | exact HB.out)) hb); clear BK219; clear BK220; clear HB; have BK219 := n0_; have BK220 := n1_; have HB := n2_; clear n0_ n1_ n2_; (try clear hb); (try clear hb2); (try clear hk); (try clear hi)))
            go_ret
            exact ⟨by first | rfl | (simp [errW_none, errW_some] <;> rfl) | (simp [*, errW_none, errW_some] <;> rfl), by repeat (first | (with_reducible first | exact HB.out | apply below_alloc | apply pw_below_drewN | apply below_drew1 | refine below_set ?_ GE219.out | refine below_set ?_ GE220.out) | exact HB.out)⟩
        · replace c16 := Bool.eq_false_iff.mpr c16
          subst c16
          have H1 : (some false) = some r := by rw [if_neg (show ¬ (false = true) by decide)] at H; exact H
          clear H
          have H := H1
          clear H1
          obtain rfl := Option.some.inj H
          have hnb37 := NB219_220.out
          have hnc37 := NB220_219.out
          have hcz38_0 : wc.cell? ⟨gb219, 0, none⟩ = some (.int .u64 a0_0) := (blk_cell BK219.out 0).trans rfl
          have hcz38_1 : wc.cell? ⟨gb219, 1, none⟩ = some (.int .u64 a0_1) := (blk_cell BK219.out 1).trans rfl
          have hcz38_2 : wc.cell? ⟨gb219, 2, none⟩ = some (.string a0_2) := (blk_cell BK219.out 2).trans rfl
          have hcz38_3 : wc.cell? ⟨gb219, 3, none⟩ = some (.slice A0_3 l0_3.length c0_3) := (blk_cell BK219.out 3).trans rfl
          have hfz38_0 := blk_frozen BK219.out 0
          have hfz38_1 := blk_frozen BK219.out 1
          have hfz38_2 := blk_frozen BK219.out 2
          have hfz38_3 := blk_frozen BK219.out 3
          have hcz39_0 : wc.cell? ⟨gb220, 0, none⟩ = some (.int .u64 a1_0) := (blk_cell BK220.out 0).trans rfl
          have hcz39_1 : wc.cell? ⟨gb220, 1, none⟩ = some (.int .u64 a1_1) := (blk_cell BK220.out 1).trans rfl
          have hcz39_2 : wc.cell? ⟨gb220, 2, none⟩ = some (.string a1_2) := (blk_cell BK220.out 2).trans rfl
          have hcz39_3 : wc.cell? ⟨gb220, 3, none⟩ = some (.slice A1_3 l1_3.length c1_3) := (blk_cell BK220.out 3).trans rfl
          have hfz39_0 := blk_frozen BK220.out 0
          have hfz39_1 := blk_frozen BK220.out 1
          have hfz39_2 := blk_frozen BK220.out 2
          have hfz39_3 := blk_frozen BK220.out 3
          go_wp2_with (first | ((with_reducible refine gate_callee (f := 22) rfl ?_); refine goesL_ (some 19) rfl rfl Try.func22 (by kernel_rfl) rfl #[.agg #[.int .u64 a0_0, .int .u64 a0_1, .string a0_2, .slice A0_3 l0_3.length c0_3], .agg #[.int .u64 a1_0, .int .u64 a1_1, .string a1_2, .slice A1_3 l1_3.length c1_3]] rfl (by (try simp only [List.map_toArray, List.map_cons, List.map_nil]); first | done | rfl | (simp only [List.length_drop, List.length_take]; rfl)) ?_; (with_reducible refine (rlog_Shared.calls kj3 a0_0 a0_1 a0_2 _ _ l0_3 a1_0 a1_1 a1_2 _ _ l1_3 t222 _ ?side1 ?side2 ?side3 ?side4 A15.out).mono ?_); (case side1 => repeat (first | exact (Kd.C_below HR0_3.out HB.out) | (with_reducible refine Kd.C_alloc ?_ _) | (with_reducible refine Kd.C_drewN ?_ _) | (with_reducible refine Kd.C_drew ?_))); (case side2 => exact HC0_3.out); (case side3 => repeat (first | exact (Kd.C_below HR1_3.out HB.out) | (with_reducible refine Kd.C_alloc ?_ _) | (with_reducible refine Kd.C_drewN ?_ _) | (with_reducible refine Kd.C_drew ?_))); (case side4 => exact HC1_3.out); rintro e w40 ⟨rfl, hb⟩; refine ⟨_, rfl, ?_⟩; have n0_ := Aside0.mk (blk_below (g := gb219) (o := .cells #[.int .u64 a0_0, .int .u64 a0_1, .string a0_2, .slice A0_3 l0_3.length c0_3] 25 (0, 0)) (by (with_reducible repeat (first | refine blk_drewN ?_ _ | refine blk_drew ?_ | refine blk_alloc ?_ _)); exact BK219.out) hb); have n1_ := Aside0.mk (blk_below (g := gb220) (o := .cells #[.int .u64 a1_0, .int .u64 a1_1, .string a1_2, .slice A1_3 l1_3.length c1_3] 25 (0, 0)) (by (with_reducible repeat (first | refine blk_drewN ?_ _ | refine blk_drew ?_ | refine blk_alloc ?_ _)); exact BK220.out) hb); have n2_ := Aside0.mk (below_step (by repeat (first | (with_reducible first | exact HB.out | apply below_alloc | apply pw_below_drewN | apply below_drew1 | refine below_set ?_ GE219.out | refine below_set ?_ GE220.out) | exact HB.out)) hb); clear BK219; clear BK220; clear HB; have BK219 := n0_; have BK220 := n1_; have HB := n2_; clear n0_ n1_ n2_; (try clear hb); (try clear hb2); (try clear hk); (try clear hi)))
          go_ret
          exact ⟨by first | rfl | (simp [errW_none, errW_some] <;> rfl) | (simp [*, errW_none, errW_some] <;> rfl), by repeat (first | (with_reducible first | exact HB.out | apply below_alloc | apply pw_below_drewN | apply below_drew1 | refine below_set ?_ GE219.out | refine below_set ?_ GE220.out) | exact HB.out)⟩

end Go.Proofs.Ytbejichfgednhaa.Pr
