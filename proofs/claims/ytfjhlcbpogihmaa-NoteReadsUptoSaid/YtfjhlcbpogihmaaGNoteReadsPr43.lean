/- What the program's functions compute, and that they compute it: printed out of the translation by a program of this session's (px.py, over the kit's printer). Conditions: none. -/
import Derived.Test.YtfjhlcbpogihmaaKNoteReads1
namespace Go.Proofs.Ytfjhlcbpogihmaa.Pr
open Go.RowKit Go.Proofs.YtfjhlcbpogihmaaW.PrintWords Go.Proofs.YtfjhlcbpogihmaaW.PrintLast Go.Proofs.YtfjhlcbpogihmaaW.PrintMore
attribute [local go_sem] max2_int min2_int max_two min_two max_three min_three max_four min_four
set_option linter.unusedVariables false
set_option linter.unusedSimpArgs false
/-! ### ferruleref04_NoteMay: function 68 -/
mutual
def ferruleref04_NoteMay.j0 : Nat → Bool → Int → Int → Int → Int → ByteArray → Option (Bool)
  | 0, _, _, _, _, _, _ => none
  | k + 1, x21, x439000, x439001, x439002, x439003, x439004 => if x21 = true then (some false) else (if x439000 = 1 then (if x439001 = 0 then (some (x439004.toList == ([] : List UInt8))) else (some false)) else (if x439000 = 2 then (ferruleref04_NoteMay.j1 k x439000 (x439000 == 2) x439000 x439001 x439002 x439003 x439004) else (ferruleref04_NoteMay.j1 k x439000 (x439000 == 4) x439000 x439001 x439002 x439003 x439004)))
def ferruleref04_NoteMay.j1 : Nat → Int → Bool → Int → Int → Int → Int → ByteArray → Option (Bool)
  | 0, _, _, _, _, _, _, _ => none
  | k + 1, x23, x34, x439000, x439001, x439002, x439003, x439004 => if x34 = true then (some (x439003 == 0)) else (if x23 = 3 then (if x439002 = 0 then (if x439003 = 0 then (some (x439004.toList == ([] : List UInt8))) else (some false)) else (some false)) else (some false))
end
def ferruleref04_NoteMay.f (k : Nat) (a0_0 : Int) (a0_1 : Int) (a0_2 : Int) (a0_3 : Int) (a0_4 : ByteArray) : Option (Bool) := if a0_1 > 4611686018427387903 then (ferruleref04_NoteMay.j0 k true a0_0 a0_1 a0_2 a0_3 a0_4) else (if a0_2 > 4611686018427387903 then (ferruleref04_NoteMay.j0 k true a0_0 a0_1 a0_2 a0_3 a0_4) else (if a0_3 > 4611686018427387903 then (ferruleref04_NoteMay.j0 k true a0_0 a0_1 a0_2 a0_3 a0_4) else (ferruleref04_NoteMay.j0 k (decide ((a0_4.size : Int) > 4096)) a0_0 a0_1 a0_2 a0_3 a0_4)))
set_option maxHeartbeats 8000000 in
set_option maxRecDepth 100000 in
theorem ferruleref04_NoteMay.calls (k : Nat) (a0_0 : Int) (a0_1 : Int) (a0_2 : Int) (a0_3 : Int) (a0_4 : ByteArray) (r : Bool) (w : World) (h : ferruleref04_NoteMay.f k a0_0 a0_1 a0_2 a0_3 a0_4 = some r) :
    Calls Try.prog 68 #[.agg #[.int .i64 a0_0, .int .u64 a0_1, .int .u64 a0_2, .int .u64 a0_3, .string a0_4]] w fun e w' => e = .returned (.bool r) ∧ Below w.heap.size w w' := by
  have hu39 := Try.underlying39
  have HB := Aside0.mk (Below.refl w.heap.size w)
  have H : (if a0_1 > 4611686018427387903 then (ferruleref04_NoteMay.j0 k true a0_0 a0_1 a0_2 a0_3 a0_4) else (if a0_2 > 4611686018427387903 then (ferruleref04_NoteMay.j0 k true a0_0 a0_1 a0_2 a0_3 a0_4) else (if a0_3 > 4611686018427387903 then (ferruleref04_NoteMay.j0 k true a0_0 a0_1 a0_2 a0_3 a0_4) else (ferruleref04_NoteMay.j0 k (decide ((a0_4.size : Int) > 4096)) a0_0 a0_1 a0_2 a0_3 a0_4)))) = some r := h
  clear h
  have HC2 := Aside0.mk H
  clear H
  go_enter Try.func68, Try.ntmps68
  go_upto_region 1 with (first | ((with_reducible refine gate_dst (N := 1) rfl ?_); (try (refine gate_guard (by rfl) ?_; dsimp only)); refine box_event ?hg (N := 1) ?hd (cs := #[.int .i64 a0_0, .int .u64 a0_1, .int .u64 a0_2, .int .u64 a0_3, .string a0_4]) (t := 39) ?hr ?_; (case hd => rfl); (case hg => rfl); (case hr => first | (go_simp; done) | (go_simp; rfl)); intro gb438 hg w3 hbox hb; have n0_ := Aside0.mk (below_step (by repeat (first | (with_reducible first | exact HB.out | apply below_alloc | apply pw_below_drewN | apply below_drew1) | exact HB.out | exact Below.refl _ _)) hb); have n1_ := Aside0.mk (hbox); have n2_ := Aside0.mk ((by rw [hg]; exact (below_size (by repeat (first | (with_reducible first | exact HB.out | apply below_alloc | apply pw_below_drewN | apply below_drew1) | exact HB.out))) : w.heap.size ≤ gb438)); have n3_ := Aside0.mk ((by rw [hg]; exact (below_size (by repeat (first | (with_reducible first | exact HB.out | apply below_alloc | apply pw_below_drewN | apply below_drew1) | exact HB.out))) : w.heap.size ≤ gb438)); clear HB; have HB := n0_; have BK438 := n1_; have GW438 := n2_; have GE438 := n3_; clear n0_ n1_ n2_ n3_; clear hb hbox hg))
  (try simp only [Act.put, List.setIfInBounds_toArray, List.set_cons_zero, List.set_cons_succ])
  go_cut [21] (fun v21 wc => ∃ (kq : Nat) (x21_1 : Bool), v21 = .bool x21_1 ∧ Aside0 (ferruleref04_NoteMay.j0 kq x21_1 a0_0 a0_1 a0_2 a0_3 a0_4 = some r) ∧ Aside0 (kq ≤ k) ∧ Aside0 (wc.heap[gb438]? = some (.cells #[.int .i64 a0_0, .int .u64 a0_1, .int .u64 a0_2, .int .u64 a0_3, .string a0_4] 39 (0, 0))) ∧ Aside0 (Below w.heap.size w wc))
  case first =>
    have H := HC2.out
    clear HC2
    by_cases c4 : a0_1 > 4611686018427387903
    · rw [if_pos c4] at H
      have c4b0 : decide (4611686018427387903 < a0_1) = true := decide_eq_true c4
      clear c4
      (first | rw [c4b0] | (simp only [i64_w, i32_w]; rw [c4b0]) | skip)
      have H' := Aside0.mk H
      clear H
      have hcz5_0 : w3.cell? ⟨gb438, 0, none⟩ = some (.int .i64 a0_0) := (blk_cell BK438.out 0).trans rfl
      have hcz5_1 : w3.cell? ⟨gb438, 1, none⟩ = some (.int .u64 a0_1) := (blk_cell BK438.out 1).trans rfl
      have hcz5_2 : w3.cell? ⟨gb438, 2, none⟩ = some (.int .u64 a0_2) := (blk_cell BK438.out 2).trans rfl
      have hcz5_3 : w3.cell? ⟨gb438, 3, none⟩ = some (.int .u64 a0_3) := (blk_cell BK438.out 3).trans rfl
      have hcz5_4 : w3.cell? ⟨gb438, 4, none⟩ = some (.string a0_4) := (blk_cell BK438.out 4).trans rfl
      have hfz5_0 := blk_frozen BK438.out 0
      have hfz5_1 := blk_frozen BK438.out 1
      have hfz5_2 := blk_frozen BK438.out 2
      have hfz5_3 := blk_frozen BK438.out 3
      have hfz5_4 := blk_frozen BK438.out 4
      go_wp2
      go_meet
      case rel => exact ⟨_, (true), (by first | rfl | (simp; done) | (simp [*]; done)), H', ⟨by first | omega | exact Nat.le_refl _⟩, ⟨by (with_reducible repeat (first | refine blk_drewN ?_ _ | refine blk_drew ?_ | refine blk_alloc ?_ _)); exact BK438.out⟩, ⟨by repeat (first | (with_reducible first | exact HB.out | apply below_alloc | apply pw_below_drewN | apply below_drew1 | refine below_set ?_ GE438.out) | exact HB.out)⟩⟩
    · rw [if_neg c4] at H
      have c4b0 : decide (4611686018427387903 < a0_1) = false := decide_eq_false c4
      clear c4
      (first | rw [c4b0] | (simp only [i64_w, i32_w]; rw [c4b0]) | skip)
      by_cases c6 : a0_2 > 4611686018427387903
      · rw [if_pos c6] at H
        have c6b0 : decide (4611686018427387903 < a0_2) = true := decide_eq_true c6
        clear c6
        have H' := Aside0.mk H
        clear H
        have hcz7_0 : w3.cell? ⟨gb438, 0, none⟩ = some (.int .i64 a0_0) := (blk_cell BK438.out 0).trans rfl
        have hcz7_1 : w3.cell? ⟨gb438, 1, none⟩ = some (.int .u64 a0_1) := (blk_cell BK438.out 1).trans rfl
        have hcz7_2 : w3.cell? ⟨gb438, 2, none⟩ = some (.int .u64 a0_2) := (blk_cell BK438.out 2).trans rfl
        have hcz7_3 : w3.cell? ⟨gb438, 3, none⟩ = some (.int .u64 a0_3) := (blk_cell BK438.out 3).trans rfl
        have hcz7_4 : w3.cell? ⟨gb438, 4, none⟩ = some (.string a0_4) := (blk_cell BK438.out 4).trans rfl
        have hfz7_0 := blk_frozen BK438.out 0
        have hfz7_1 := blk_frozen BK438.out 1
        have hfz7_2 := blk_frozen BK438.out 2
        have hfz7_3 := blk_frozen BK438.out 3
        have hfz7_4 := blk_frozen BK438.out 4
        go_wp2
        go_meet
        case rel => exact ⟨_, (true), (by first | rfl | (simp; done) | (simp [*]; done)), H', ⟨by first | omega | exact Nat.le_refl _⟩, ⟨by (with_reducible repeat (first | refine blk_drewN ?_ _ | refine blk_drew ?_ | refine blk_alloc ?_ _)); exact BK438.out⟩, ⟨by repeat (first | (with_reducible first | exact HB.out | apply below_alloc | apply pw_below_drewN | apply below_drew1 | refine below_set ?_ GE438.out) | exact HB.out)⟩⟩
      · rw [if_neg c6] at H
        have c6b0 : decide (4611686018427387903 < a0_2) = false := decide_eq_false c6
        clear c6
        by_cases c8 : a0_3 > 4611686018427387903
        · rw [if_pos c8] at H
          have c8b0 : decide (4611686018427387903 < a0_3) = true := decide_eq_true c8
          clear c8
          have H' := Aside0.mk H
          clear H
          have hcz9_0 : w3.cell? ⟨gb438, 0, none⟩ = some (.int .i64 a0_0) := (blk_cell BK438.out 0).trans rfl
          have hcz9_1 : w3.cell? ⟨gb438, 1, none⟩ = some (.int .u64 a0_1) := (blk_cell BK438.out 1).trans rfl
          have hcz9_2 : w3.cell? ⟨gb438, 2, none⟩ = some (.int .u64 a0_2) := (blk_cell BK438.out 2).trans rfl
          have hcz9_3 : w3.cell? ⟨gb438, 3, none⟩ = some (.int .u64 a0_3) := (blk_cell BK438.out 3).trans rfl
          have hcz9_4 : w3.cell? ⟨gb438, 4, none⟩ = some (.string a0_4) := (blk_cell BK438.out 4).trans rfl
          have hfz9_0 := blk_frozen BK438.out 0
          have hfz9_1 := blk_frozen BK438.out 1
          have hfz9_2 := blk_frozen BK438.out 2
          have hfz9_3 := blk_frozen BK438.out 3
          have hfz9_4 := blk_frozen BK438.out 4
          go_wp2
          go_meet
          case rel => exact ⟨_, (true), (by first | rfl | (simp; done) | (simp [*]; done)), H', ⟨by first | omega | exact Nat.le_refl _⟩, ⟨by (with_reducible repeat (first | refine blk_drewN ?_ _ | refine blk_drew ?_ | refine blk_alloc ?_ _)); exact BK438.out⟩, ⟨by repeat (first | (with_reducible first | exact HB.out | apply below_alloc | apply pw_below_drewN | apply below_drew1 | refine below_set ?_ GE438.out) | exact HB.out)⟩⟩
        · rw [if_neg c8] at H
          have c8b0 : decide (4611686018427387903 < a0_3) = false := decide_eq_false c8
          clear c8
          have H' := Aside0.mk H
          clear H
          have hcz10_0 : w3.cell? ⟨gb438, 0, none⟩ = some (.int .i64 a0_0) := (blk_cell BK438.out 0).trans rfl
          have hcz10_1 : w3.cell? ⟨gb438, 1, none⟩ = some (.int .u64 a0_1) := (blk_cell BK438.out 1).trans rfl
          have hcz10_2 : w3.cell? ⟨gb438, 2, none⟩ = some (.int .u64 a0_2) := (blk_cell BK438.out 2).trans rfl
          have hcz10_3 : w3.cell? ⟨gb438, 3, none⟩ = some (.int .u64 a0_3) := (blk_cell BK438.out 3).trans rfl
          have hcz10_4 : w3.cell? ⟨gb438, 4, none⟩ = some (.string a0_4) := (blk_cell BK438.out 4).trans rfl
          have hfz10_0 := blk_frozen BK438.out 0
          have hfz10_1 := blk_frozen BK438.out 1
          have hfz10_2 := blk_frozen BK438.out 2
          have hfz10_3 := blk_frozen BK438.out 3
          have hfz10_4 := blk_frozen BK438.out 4
          go_wp2
          go_meet
          case rel => exact ⟨_, (decide ((a0_4.size : Int) > 4096)), (by first | rfl | (simp; done) | (simp [*]; done)), H', ⟨by first | omega | exact Nat.le_refl _⟩, ⟨by (with_reducible repeat (first | refine blk_drewN ?_ _ | refine blk_drew ?_ | refine blk_alloc ?_ _)); exact BK438.out⟩, ⟨by repeat (first | (with_reducible first | exact HB.out | apply below_alloc | apply pw_below_drewN | apply below_drew1 | refine below_set ?_ GE438.out) | exact HB.out)⟩⟩
  case rest =>
    clear HC2
    try clear p2
    try clear c4
    try clear c4b0
    try clear c6
    try clear c6b0
    try clear c8
    try clear c8b0
    try clear hcz10_0
    try clear hcz10_1
    try clear hcz10_2
    try clear hcz10_3
    try clear hcz10_4
    try clear hcz5_0
    try clear hcz5_1
    try clear hcz5_2
    try clear hcz5_3
    try clear hcz5_4
    try clear hcz7_0
    try clear hcz7_1
    try clear hcz7_2
    try clear hcz7_3
    try clear hcz7_4
    try clear hcz9_0
    try clear hcz9_1
    try clear hcz9_2
    try clear hcz9_3
    try clear hcz9_4
    try clear hfz10_0
    try clear hfz10_1
    try clear hfz10_2
    try clear hfz10_3
    try clear hfz10_4
    try clear hfz5_0
    try clear hfz5_1
    try clear hfz5_2
    try clear hfz5_3
    try clear hfz5_4
    try clear hfz7_0
    try clear hfz7_1
    try clear hfz7_2
    try clear hfz7_3
    try clear hfz7_4
    try clear hfz9_0
    try clear hfz9_1
    try clear hfz9_2
    try clear hfz9_3
    try clear hfz9_4
    obtain ⟨kq, x21_1, rfl, HA, HJ1, BK438, HB⟩ := hcut
    cases kq with
    | zero => exact absurd HA.out (by simp [ferruleref04_NoteMay.j0])
    | succ kj1 =>
      have H := HA.out
      clear HA
      simp only [ferruleref04_NoteMay.j0] at H
      by_cases c11 : x21_1 = true
      · subst c11
        have H1 : (some false) = some r := by rw [if_pos rfl] at H; exact H
        clear H
        have H := H1
        clear H1
        obtain rfl := Option.some.inj H
        go_wp2
        go_ret
        exact ⟨by first | rfl | (simp [errW_none, errW_some] <;> rfl) | (simp [*, errW_none, errW_some] <;> rfl), by repeat (first | (with_reducible first | exact HB.out | apply below_alloc | apply pw_below_drewN | apply below_drew1 | refine below_set ?_ GE438.out) | exact HB.out)⟩
      · replace c11 := Bool.eq_false_iff.mpr c11
        subst c11
        have H1 : (if a0_0 = 1 then (if a0_1 = 0 then (some (a0_4.toList == ([] : List UInt8))) else (some false)) else (if a0_0 = 2 then (ferruleref04_NoteMay.j1 kj1 a0_0 (a0_0 == 2) a0_0 a0_1 a0_2 a0_3 a0_4) else (ferruleref04_NoteMay.j1 kj1 a0_0 (a0_0 == 4) a0_0 a0_1 a0_2 a0_3 a0_4))) = some r := by rw [if_neg (show ¬ (false = true) by decide)] at H; exact H
        clear H
        have H := H1
        clear H1
        by_cases c12 : a0_0 = 1
        · rw [if_pos c12] at H
          have c12b0 : (a0_0 == 1) = true := beq_iff_eq.mpr c12
          have c12b1 : (a0_0 != 1) = false := bne_eq_false_iff_eq.mpr c12
          clear c12
          by_cases c13 : a0_1 = 0
          · rw [if_pos c13] at H
            have c13b0 : (a0_1 == 0) = true := beq_iff_eq.mpr c13
            have c13b1 : (a0_1 != 0) = false := bne_eq_false_iff_eq.mpr c13
            clear c13
            obtain rfl := Option.some.inj H
            have hcz14_0 : wc.cell? ⟨gb438, 0, none⟩ = some (.int .i64 a0_0) := (blk_cell BK438.out 0).trans rfl
            have hcz14_1 : wc.cell? ⟨gb438, 1, none⟩ = some (.int .u64 a0_1) := (blk_cell BK438.out 1).trans rfl
            have hcz14_2 : wc.cell? ⟨gb438, 2, none⟩ = some (.int .u64 a0_2) := (blk_cell BK438.out 2).trans rfl
            have hcz14_3 : wc.cell? ⟨gb438, 3, none⟩ = some (.int .u64 a0_3) := (blk_cell BK438.out 3).trans rfl
            have hcz14_4 : wc.cell? ⟨gb438, 4, none⟩ = some (.string a0_4) := (blk_cell BK438.out 4).trans rfl
            have hfz14_0 := blk_frozen BK438.out 0
            have hfz14_1 := blk_frozen BK438.out 1
            have hfz14_2 := blk_frozen BK438.out 2
            have hfz14_3 := blk_frozen BK438.out 3
            have hfz14_4 := blk_frozen BK438.out 4
            go_wp2
            go_ret
            exact ⟨by first | rfl | (simp [errW_none, errW_some] <;> rfl) | (simp [*, errW_none, errW_some] <;> rfl), by repeat (first | (with_reducible first | exact HB.out | apply below_alloc | apply pw_below_drewN | apply below_drew1 | refine below_set ?_ GE438.out) | exact HB.out)⟩
          · rw [if_neg c13] at H
            have c13b0 : (a0_1 == 0) = false := beq_eq_false_iff_ne.mpr c13
            have c13b1 : (a0_1 != 0) = true := bne_iff_ne.mpr c13
            obtain rfl := Option.some.inj H
            have hcz15_0 : wc.cell? ⟨gb438, 0, none⟩ = some (.int .i64 a0_0) := (blk_cell BK438.out 0).trans rfl
            have hcz15_1 : wc.cell? ⟨gb438, 1, none⟩ = some (.int .u64 a0_1) := (blk_cell BK438.out 1).trans rfl
            have hcz15_2 : wc.cell? ⟨gb438, 2, none⟩ = some (.int .u64 a0_2) := (blk_cell BK438.out 2).trans rfl
            have hcz15_3 : wc.cell? ⟨gb438, 3, none⟩ = some (.int .u64 a0_3) := (blk_cell BK438.out 3).trans rfl
            have hcz15_4 : wc.cell? ⟨gb438, 4, none⟩ = some (.string a0_4) := (blk_cell BK438.out 4).trans rfl
            have hfz15_0 := blk_frozen BK438.out 0
            have hfz15_1 := blk_frozen BK438.out 1
            have hfz15_2 := blk_frozen BK438.out 2
            have hfz15_3 := blk_frozen BK438.out 3
            have hfz15_4 := blk_frozen BK438.out 4
            go_wp2
            go_ret
            exact ⟨by first | rfl | (simp [errW_none, errW_some] <;> rfl) | (simp [*, errW_none, errW_some] <;> rfl), by repeat (first | (with_reducible first | exact HB.out | apply below_alloc | apply pw_below_drewN | apply below_drew1 | refine below_set ?_ GE438.out) | exact HB.out)⟩
        · rw [if_neg c12] at H
          have c12b0 : (a0_0 == 1) = false := beq_eq_false_iff_ne.mpr c12
          have c12b1 : (a0_0 != 1) = true := bne_iff_ne.mpr c12
          have HC16 := Aside0.mk H
          clear H
          have hcz17_0 : wc.cell? ⟨gb438, 0, none⟩ = some (.int .i64 a0_0) := (blk_cell BK438.out 0).trans rfl
          have hcz17_1 : wc.cell? ⟨gb438, 1, none⟩ = some (.int .u64 a0_1) := (blk_cell BK438.out 1).trans rfl
          have hcz17_2 : wc.cell? ⟨gb438, 2, none⟩ = some (.int .u64 a0_2) := (blk_cell BK438.out 2).trans rfl
          have hcz17_3 : wc.cell? ⟨gb438, 3, none⟩ = some (.int .u64 a0_3) := (blk_cell BK438.out 3).trans rfl
          have hcz17_4 : wc.cell? ⟨gb438, 4, none⟩ = some (.string a0_4) := (blk_cell BK438.out 4).trans rfl
          have hfz17_0 := blk_frozen BK438.out 0
          have hfz17_1 := blk_frozen BK438.out 1
          have hfz17_2 := blk_frozen BK438.out 2
          have hfz17_3 := blk_frozen BK438.out 3
          have hfz17_4 := blk_frozen BK438.out 4
          go_upto_if 34 with (fail)
          go_cut [34] (fun v34 wc => ∃ (kq : Nat) (x34_15 : Bool), v34 = .bool x34_15 ∧ Aside0 (ferruleref04_NoteMay.j1 kq a0_0 x34_15 a0_0 a0_1 a0_2 a0_3 a0_4 = some r) ∧ Aside0 (kq ≤ kj1) ∧ Aside0 (wc.heap[gb438]? = some (.cells #[.int .i64 a0_0, .int .u64 a0_1, .int .u64 a0_2, .int .u64 a0_3, .string a0_4] 39 (0, 0))) ∧ Aside0 (Below w.heap.size w wc))
          case first =>
            have H := HC16.out
            clear HC16
            by_cases c18 : a0_0 = 2
            · rw [if_pos c18] at H
              have c18b0 : (a0_0 == 2) = true := beq_iff_eq.mpr c18
              have c18b1 : (a0_0 != 2) = false := bne_eq_false_iff_eq.mpr c18
              clear c18
              (first | rw [c18b0] | (simp only [i64_w, i32_w]; rw [c18b0]) | skip)
              have H' := Aside0.mk H
              clear H
              go_wp2
              go_meet
              case rel => exact ⟨_, ((a0_0 == 2)), (by first | rfl | (simp; done) | (simp [*]; done)), H', ⟨by have := HJ1.out; first | omega | exact Nat.le_refl _⟩, ⟨by (with_reducible repeat (first | refine blk_drewN ?_ _ | refine blk_drew ?_ | refine blk_alloc ?_ _)); exact BK438.out⟩, ⟨by repeat (first | (with_reducible first | exact HB.out | apply below_alloc | apply pw_below_drewN | apply below_drew1 | refine below_set ?_ GE438.out) | exact HB.out)⟩⟩
            · rw [if_neg c18] at H
              have c18b0 : (a0_0 == 2) = false := beq_eq_false_iff_ne.mpr c18
              have c18b1 : (a0_0 != 2) = true := bne_iff_ne.mpr c18
              (first | rw [c18b0] | (simp only [i64_w, i32_w]; rw [c18b0]) | skip)
              have H' := Aside0.mk H
              clear H
              go_wp2
              go_meet
              case rel => exact ⟨_, ((a0_0 == 4)), (by first | rfl | (simp; done) | (simp [*]; done)), H', ⟨by have := HJ1.out; first | omega | exact Nat.le_refl _⟩, ⟨by (with_reducible repeat (first | refine blk_drewN ?_ _ | refine blk_drew ?_ | refine blk_alloc ?_ _)); exact BK438.out⟩, ⟨by repeat (first | (with_reducible first | exact HB.out | apply below_alloc | apply pw_below_drewN | apply below_drew1 | refine below_set ?_ GE438.out) | exact HB.out)⟩⟩
          case rest =>
            clear HC16
            try clear c1
            try clear p2
            try clear c4
            try clear c4b0
            try clear c6
            try clear c6b0
            try clear c8
            try clear c8b0
            try clear c11
            try clear c12
            try clear c12b0
            try clear c12b1
            try clear c13
            try clear c13b0
            try clear c13b1
            try clear c18
            try clear c18b0
            try clear c18b1
            try clear hcz10_0
            try clear hcz10_1
            try clear hcz10_2
            try clear hcz10_3
            try clear hcz10_4
            try clear hcz14_0
            try clear hcz14_1
            try clear hcz14_2
            try clear hcz14_3
            try clear hcz14_4
            try clear hcz15_0
            try clear hcz15_1
            try clear hcz15_2
            try clear hcz15_3
            try clear hcz15_4
            try clear hcz17_0
            try clear hcz17_1
            try clear hcz17_2
            try clear hcz17_3
            try clear hcz17_4
            try clear hcz5_0
            try clear hcz5_1
            try clear hcz5_2
            try clear hcz5_3
            try clear hcz5_4
            try clear hcz7_0
            try clear hcz7_1
            try clear hcz7_2
            try clear hcz7_3
            try clear hcz7_4
            try clear hcz9_0
            try clear hcz9_1
            try clear hcz9_2
            try clear hcz9_3
            try clear hcz9_4
            try clear hfz10_0
            try clear hfz10_1
            try clear hfz10_2
            try clear hfz10_3
            try clear hfz10_4
            try clear hfz14_0
            try clear hfz14_1
            try clear hfz14_2
            try clear hfz14_3
            try clear hfz14_4
            try clear hfz15_0
            try clear hfz15_1
            try clear hfz15_2
            try clear hfz15_3
            try clear hfz15_4
            try clear hfz17_0
            try clear hfz17_1
            try clear hfz17_2
            try clear hfz17_3
            try clear hfz17_4
            try clear hfz5_0
            try clear hfz5_1
            try clear hfz5_2
            try clear hfz5_3
            try clear hfz5_4
            try clear hfz7_0
            try clear hfz7_1
            try clear hfz7_2
            try clear hfz7_3
            try clear hfz7_4
            try clear hfz9_0
            try clear hfz9_1
            try clear hfz9_2
            try clear hfz9_3
            try clear hfz9_4
            try clear p2
            obtain ⟨kq, x34_15, rfl, HA, HJ15, BK438, HB⟩ := hcut
            cases kq with
            | zero => exact absurd HA.out (by simp [ferruleref04_NoteMay.j1])
            | succ kj15 =>
              have H := HA.out
              clear HA
              simp only [ferruleref04_NoteMay.j1] at H
              by_cases c19 : x34_15 = true
              · subst c19
                have H1 : (some (a0_3 == 0)) = some r := by rw [if_pos rfl] at H; exact H
                clear H
                have H := H1
                clear H1
                obtain rfl := Option.some.inj H
                have hcz20_0 : wc.cell? ⟨gb438, 0, none⟩ = some (.int .i64 a0_0) := (blk_cell BK438.out 0).trans rfl
                have hcz20_1 : wc.cell? ⟨gb438, 1, none⟩ = some (.int .u64 a0_1) := (blk_cell BK438.out 1).trans rfl
                have hcz20_2 : wc.cell? ⟨gb438, 2, none⟩ = some (.int .u64 a0_2) := (blk_cell BK438.out 2).trans rfl
                have hcz20_3 : wc.cell? ⟨gb438, 3, none⟩ = some (.int .u64 a0_3) := (blk_cell BK438.out 3).trans rfl
                have hcz20_4 : wc.cell? ⟨gb438, 4, none⟩ = some (.string a0_4) := (blk_cell BK438.out 4).trans rfl
                have hfz20_0 := blk_frozen BK438.out 0
                have hfz20_1 := blk_frozen BK438.out 1
                have hfz20_2 := blk_frozen BK438.out 2
                have hfz20_3 := blk_frozen BK438.out 3
                have hfz20_4 := blk_frozen BK438.out 4
                go_wp2
                go_ret
                exact ⟨by first | rfl | (simp [errW_none, errW_some] <;> rfl) | (simp [*, errW_none, errW_some] <;> rfl), by repeat (first | (with_reducible first | exact HB.out | apply below_alloc | apply pw_below_drewN | apply below_drew1 | refine below_set ?_ GE438.out) | exact HB.out)⟩
              · replace c19 := Bool.eq_false_iff.mpr c19
                subst c19
                have H1 : (if a0_0 = 3 then (if a0_2 = 0 then (if a0_3 = 0 then (some (a0_4.toList == ([] : List UInt8))) else (some false)) else (some false)) else (some false)) = some r := by rw [if_neg (show ¬ (false = true) by decide)] at H; exact H
                clear H
                have H := H1
                clear H1
                by_cases c21 : a0_0 = 3
                · rw [if_pos c21] at H
                  have c21b0 : (a0_0 == 3) = true := beq_iff_eq.mpr c21
                  have c21b1 : (a0_0 != 3) = false := bne_eq_false_iff_eq.mpr c21
                  clear c21
                  by_cases c22 : a0_2 = 0
                  · rw [if_pos c22] at H
                    have c22b0 : (a0_2 == 0) = true := beq_iff_eq.mpr c22
                    have c22b1 : (a0_2 != 0) = false := bne_eq_false_iff_eq.mpr c22
                    clear c22
                    by_cases c23 : a0_3 = 0
                    · rw [if_pos c23] at H
                      have c23b0 : (a0_3 == 0) = true := beq_iff_eq.mpr c23
                      have c23b1 : (a0_3 != 0) = false := bne_eq_false_iff_eq.mpr c23
                      clear c23
                      obtain rfl := Option.some.inj H
                      have hcz24_0 : wc.cell? ⟨gb438, 0, none⟩ = some (.int .i64 a0_0) := (blk_cell BK438.out 0).trans rfl
                      have hcz24_1 : wc.cell? ⟨gb438, 1, none⟩ = some (.int .u64 a0_1) := (blk_cell BK438.out 1).trans rfl
                      have hcz24_2 : wc.cell? ⟨gb438, 2, none⟩ = some (.int .u64 a0_2) := (blk_cell BK438.out 2).trans rfl
                      have hcz24_3 : wc.cell? ⟨gb438, 3, none⟩ = some (.int .u64 a0_3) := (blk_cell BK438.out 3).trans rfl
                      have hcz24_4 : wc.cell? ⟨gb438, 4, none⟩ = some (.string a0_4) := (blk_cell BK438.out 4).trans rfl
                      have hfz24_0 := blk_frozen BK438.out 0
                      have hfz24_1 := blk_frozen BK438.out 1
                      have hfz24_2 := blk_frozen BK438.out 2
                      have hfz24_3 := blk_frozen BK438.out 3
                      have hfz24_4 := blk_frozen BK438.out 4
                      go_wp2
                      go_ret
                      exact ⟨by first | rfl | (simp [errW_none, errW_some] <;> rfl) | (simp [*, errW_none, errW_some] <;> rfl), by repeat (first | (with_reducible first | exact HB.out | apply below_alloc | apply pw_below_drewN | apply below_drew1 | refine below_set ?_ GE438.out) | exact HB.out)⟩
                    · rw [if_neg c23] at H
                      have c23b0 : (a0_3 == 0) = false := beq_eq_false_iff_ne.mpr c23
                      have c23b1 : (a0_3 != 0) = true := bne_iff_ne.mpr c23
                      obtain rfl := Option.some.inj H
                      have hcz25_0 : wc.cell? ⟨gb438, 0, none⟩ = some (.int .i64 a0_0) := (blk_cell BK438.out 0).trans rfl
                      have hcz25_1 : wc.cell? ⟨gb438, 1, none⟩ = some (.int .u64 a0_1) := (blk_cell BK438.out 1).trans rfl
                      have hcz25_2 : wc.cell? ⟨gb438, 2, none⟩ = some (.int .u64 a0_2) := (blk_cell BK438.out 2).trans rfl
                      have hcz25_3 : wc.cell? ⟨gb438, 3, none⟩ = some (.int .u64 a0_3) := (blk_cell BK438.out 3).trans rfl
                      have hcz25_4 : wc.cell? ⟨gb438, 4, none⟩ = some (.string a0_4) := (blk_cell BK438.out 4).trans rfl
                      have hfz25_0 := blk_frozen BK438.out 0
                      have hfz25_1 := blk_frozen BK438.out 1
                      have hfz25_2 := blk_frozen BK438.out 2
                      have hfz25_3 := blk_frozen BK438.out 3
                      have hfz25_4 := blk_frozen BK438.out 4
                      go_wp2
                      go_ret
                      exact ⟨by first | rfl | (simp [errW_none, errW_some] <;> rfl) | (simp [*, errW_none, errW_some] <;> rfl), by repeat (first | (with_reducible first | exact HB.out | apply below_alloc | apply pw_below_drewN | apply below_drew1 | refine below_set ?_ GE438.out) | exact HB.out)⟩
                  · rw [if_neg c22] at H
                    have c22b0 : (a0_2 == 0) = false := beq_eq_false_iff_ne.mpr c22
                    have c22b1 : (a0_2 != 0) = true := bne_iff_ne.mpr c22
                    obtain rfl := Option.some.inj H
                    have hcz26_0 : wc.cell? ⟨gb438, 0, none⟩ = some (.int .i64 a0_0) := (blk_cell BK438.out 0).trans rfl
                    have hcz26_1 : wc.cell? ⟨gb438, 1, none⟩ = some (.int .u64 a0_1) := (blk_cell BK438.out 1).trans rfl
                    have hcz26_2 : wc.cell? ⟨gb438, 2, none⟩ = some (.int .u64 a0_2) := (blk_cell BK438.out 2).trans rfl
                    have hcz26_3 : wc.cell? ⟨gb438, 3, none⟩ = some (.int .u64 a0_3) := (blk_cell BK438.out 3).trans rfl
                    have hcz26_4 : wc.cell? ⟨gb438, 4, none⟩ = some (.string a0_4) := (blk_cell BK438.out 4).trans rfl
                    have hfz26_0 := blk_frozen BK438.out 0
                    have hfz26_1 := blk_frozen BK438.out 1
                    have hfz26_2 := blk_frozen BK438.out 2
                    have hfz26_3 := blk_frozen BK438.out 3
                    have hfz26_4 := blk_frozen BK438.out 4
                    go_wp2
                    go_ret
                    exact ⟨by first | rfl | (simp [errW_none, errW_some] <;> rfl) | (simp [*, errW_none, errW_some] <;> rfl), by repeat (first | (with_reducible first | exact HB.out | apply below_alloc | apply pw_below_drewN | apply below_drew1 | refine below_set ?_ GE438.out) | exact HB.out)⟩
                · rw [if_neg c21] at H
                  have c21b0 : (a0_0 == 3) = false := beq_eq_false_iff_ne.mpr c21
                  have c21b1 : (a0_0 != 3) = true := bne_iff_ne.mpr c21
                  obtain rfl := Option.some.inj H
                  go_wp2
                  go_ret
                  exact ⟨by first | rfl | (simp [errW_none, errW_some] <;> rfl) | (simp [*, errW_none, errW_some] <;> rfl), by repeat (first | (with_reducible first | exact HB.out | apply below_alloc | apply pw_below_drewN | apply below_drew1 | refine below_set ?_ GE438.out) | exact HB.out)⟩
end Go.Proofs.Ytfjhlcbpogihmaa.Pr
