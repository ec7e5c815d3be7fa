/- What the program's functions compute, and that they compute it: printed out of the translation by a program of this session's (px.py, over the kit's printer). Conditions: none. -/
import Derived.Test.YtofdgkcaimifkaaPr0
import Derived.Test.YtofdgkcaimifkaaPr2
import Derived.Test.YtofdgkcaimifkaaPr3
import Derived.Test.YtofdgkcaimifkaaPr7
import Derived.Test.YtofdgkcaimifkaaHandAct
import Derived.Test.YtofdgkcaimifkaaHandCrash
namespace Go.Proofs.Ytofdgkcaimifkaa.Pr
open Go.RowKit Go.Proofs.YtofdgkcaimifkaaW.PrintWords Go.Proofs.YtofdgkcaimifkaaW.PrintLast Go.Proofs.YtofdgkcaimifkaaW.PrintMore
attribute [local go_sem] max2_int min2_int max_two min_two max_three min_three max_four min_four   -- for this text's walks alone
set_option linter.unusedVariables false
set_option linter.unusedSimpArgs false

/-! ### ferrulelaw03_TapePower: function 7 -/
mutual
def ferrulelaw03_TapePower.j0 : Nat → Int → Int → Bool → Bool → Option (Bool)
  | 0, _, _, _, _ => none
  | k + 1, x0, x1, x5, x31 => if x31 = true then (some x5) else ((tape_Powered.f (⟨#[]⟩ : ByteArray) (⟨#[]⟩ : ByteArray) 0 false x0).bind fun bt204 => (ferrulelaw03_TapePower.l0 k x0 x1 x5 0 bt204.1 bt204.2.1 bt204.2.2.1 bt204.2.2.2))
def ferrulelaw03_TapePower.l0 : Nat → Int → Int → Bool → Int → ByteArray → ByteArray → Int → Bool → Option (Bool)
  | 0, _, _, _, _, _, _, _, _ => none
  | k + 1, x0, x1, x5, x7, x209000, x209001, x209002, x209003 => if x7 < x0 then ((tape_Write.f x209000 x209001 x209002 x209003 (⟨#[120]⟩ : ByteArray)).bind fun bt209 => (if bt209.2.2.2.2 = 0 then (if bt209.2.2.2.1 = true then (some false) else (ferrulelaw03_TapePower.l0 k x0 x1 x5 (wrap64 (x7 + 1)) bt209.1 bt209.2.1 bt209.2.2.1 bt209.2.2.2.1)) else (some false))) else (ferrulelaw03_TapePower.l1 k x0 x1 x5 0 x209000 x209001 x209002 x209003)
def ferrulelaw03_TapePower.l1 : Nat → Int → Int → Bool → Int → ByteArray → ByteArray → Int → Bool → Option (Bool)
  | 0, _, _, _, _, _, _, _, _ => none
  | k + 1, x0, x1, x5, x10, x209000, x209001, x209002, x209003 => if x10 ≤ x1 then ((tape_Sync.f x209000 x209001 x209002 x209003).bind fun bt221 => ((tape_Read.f bt221.1 bt221.2.1 bt221.2.2.1 bt221.2.2.2.1).bind fun bt227 => (if bt221.2.2.2.2 = 6 then (if bt227.2 = 6 then (if bt221.2.2.2.1 = true then (ferrulelaw03_TapePower.l1 k x0 x1 x5 (wrap64 (x10 + 1)) bt221.1 bt221.2.1 bt221.2.2.1 bt221.2.2.2.1) else (some false)) else (some false)) else (some false)))) else ((tape_Crash.f x209000 x209001 x209002 x209003 x0).bind fun bt215 => ((tape_Read.f bt215.1 bt215.2.1 bt215.2.2.1 bt215.2.2.2).bind fun bt219 => (if x5 = true then (if bt219.2 = 0 then (some ((bt219.1.size : Int) == x0)) else (some false)) else (some false))))
end
def ferrulelaw03_TapePower.f (k : Nat) (a0 : Int) (a1 : Int) : Option (Bool) := (ferrulelaw03_shown.f).bind fun t203 => (if a0 < 0 then (ferrulelaw03_TapePower.j0 k a0 a1 t203 true) else (if a0 > 100 then (ferrulelaw03_TapePower.j0 k a0 a1 t203 true) else (if a1 < 0 then (ferrulelaw03_TapePower.j0 k a0 a1 t203 true) else (ferrulelaw03_TapePower.j0 k a0 a1 t203 (decide (a1 > 100))))))
theorem ferrulelaw03_TapePower.mono_l : ∀ k, (∀ y0 y1 y2 y3, LeO (ferrulelaw03_TapePower.j0 k y0 y1 y2 y3) (ferrulelaw03_TapePower.j0 (k + 1) y0 y1 y2 y3)) ∧ (∀ y0 y1 y2 y3 y4 y5 y6 y7, LeO (ferrulelaw03_TapePower.l0 k y0 y1 y2 y3 y4 y5 y6 y7) (ferrulelaw03_TapePower.l0 (k + 1) y0 y1 y2 y3 y4 y5 y6 y7)) ∧ (∀ y0 y1 y2 y3 y4 y5 y6 y7, LeO (ferrulelaw03_TapePower.l1 k y0 y1 y2 y3 y4 y5 y6 y7) (ferrulelaw03_TapePower.l1 (k + 1) y0 y1 y2 y3 y4 y5 y6 y7))
  | 0 => ⟨fun _ _ _ _ r h => by simp [ferrulelaw03_TapePower.j0] at h, fun _ _ _ _ _ _ _ _ r h => by simp [ferrulelaw03_TapePower.l0] at h, fun _ _ _ _ _ _ _ _ r h => by simp [ferrulelaw03_TapePower.l1] at h⟩
  | k + 1 => by
    obtain ⟨ih0, ih1, ih2⟩ := ferrulelaw03_TapePower.mono_l k
    refine ⟨?_, ?_, ?_⟩
    · intro y0 y1 y2 y3
      unfold ferrulelaw03_TapePower.j0
      repeat' first
      | (with_reducible exact ih0 _ _ _ _)
      | (with_reducible exact ih1 _ _ _ _ _ _ _ _)
      | (with_reducible exact ih2 _ _ _ _ _ _ _ _)
      | (with_reducible exact LeO.refl _)
      | (with_reducible exact LeO.none _)
      | (with_reducible refine LeO.ite ?_ ?_)
      | (with_reducible refine LeO.bind ?_ (fun _ => ?_))
      | exact ih0 _ _ _ _
      | exact ih1 _ _ _ _ _ _ _ _
      | exact ih2 _ _ _ _ _ _ _ _
      | exact LeO.none _
      | refine LeO.ite ?_ ?_
      | refine LeO.bind ?_ (fun _ => ?_)
    · intro y0 y1 y2 y3 y4 y5 y6 y7
      unfold ferrulelaw03_TapePower.l0
      repeat' first
      | (with_reducible exact ih0 _ _ _ _)
      | (with_reducible exact ih1 _ _ _ _ _ _ _ _)
      | (with_reducible exact ih2 _ _ _ _ _ _ _ _)
      | (with_reducible exact LeO.refl _)
      | (with_reducible exact LeO.none _)
      | (with_reducible refine LeO.ite ?_ ?_)
      | (with_reducible refine LeO.bind ?_ (fun _ => ?_))
      | exact ih0 _ _ _ _
      | exact ih1 _ _ _ _ _ _ _ _
      | exact ih2 _ _ _ _ _ _ _ _
      | exact LeO.none _
      | refine LeO.ite ?_ ?_
      | refine LeO.bind ?_ (fun _ => ?_)
    · intro y0 y1 y2 y3 y4 y5 y6 y7
      unfold ferrulelaw03_TapePower.l1
      repeat' first
      | (with_reducible exact ih0 _ _ _ _)
      | (with_reducible exact ih1 _ _ _ _ _ _ _ _)
      | (with_reducible exact ih2 _ _ _ _ _ _ _ _)
      | (with_reducible exact LeO.refl _)
      | (with_reducible exact LeO.none _)
      | (with_reducible refine LeO.ite ?_ ?_)
      | (with_reducible refine LeO.bind ?_ (fun _ => ?_))
      | exact ih0 _ _ _ _
      | exact ih1 _ _ _ _ _ _ _ _
      | exact ih2 _ _ _ _ _ _ _ _
      | exact LeO.none _
      | refine LeO.ite ?_ ?_
      | refine LeO.bind ?_ (fun _ => ?_)
theorem ferrulelaw03_TapePower.mono : ∀ a0 a1 k, LeO (ferrulelaw03_TapePower.f k a0 a1) (ferrulelaw03_TapePower.f (k + 1) a0 a1) := by
  intro a0 a1 k
  obtain ⟨ih0, ih1, ih2⟩ := ferrulelaw03_TapePower.mono_l k
  unfold ferrulelaw03_TapePower.f
  repeat' first
      | (with_reducible exact ih0 _ _ _ _)
      | (with_reducible exact ih1 _ _ _ _ _ _ _ _)
      | (with_reducible exact ih2 _ _ _ _ _ _ _ _)
      | (with_reducible exact LeO.refl _)
      | (with_reducible exact LeO.none _)
      | (with_reducible refine LeO.ite ?_ ?_)
      | (with_reducible refine LeO.bind ?_ (fun _ => ?_))
      | exact ih0 _ _ _ _
      | exact ih1 _ _ _ _ _ _ _ _
      | exact ih2 _ _ _ _ _ _ _ _
      | exact LeO.none _
      | refine LeO.ite ?_ ?_
      | refine LeO.bind ?_ (fun _ => ?_)
set_option maxHeartbeats 8000000 in
set_option maxRecDepth 100000 in
theorem ferrulelaw03_TapePower.calls (k : Nat) (a0 : Int) (a1 : Int) (r : Bool) (w : World) (h : ferrulelaw03_TapePower.f k a0 a1 = some r) :
    Calls Try.prog 7 #[.int .i64 a0, .int .i64 a1] w fun e w' => e = .returned (.bool r) ∧ Below w.heap.size w w' := by
  have hu23 := Try.underlying23
  have HB := Aside0.mk (Below.refl w.heap.size w)
  have H : ((ferrulelaw03_shown.f).bind fun t203 => (if a0 < 0 then (ferrulelaw03_TapePower.j0 k a0 a1 t203 true) else (if a0 > 100 then (ferrulelaw03_TapePower.j0 k a0 a1 t203 true) else (if a1 < 0 then (ferrulelaw03_TapePower.j0 k a0 a1 t203 true) else (ferrulelaw03_TapePower.j0 k a0 a1 t203 (decide (a1 > 100))))))) = some r := h
  clear h
  replace H := Option.bind_eq_some_iff.mp H
  obtain ⟨t203, A30, H⟩ := H
  replace H : (if a0 < 0 then (ferrulelaw03_TapePower.j0 k a0 a1 t203 true) else (if a0 > 100 then (ferrulelaw03_TapePower.j0 k a0 a1 t203 true) else (if a1 < 0 then (ferrulelaw03_TapePower.j0 k a0 a1 t203 true) else (ferrulelaw03_TapePower.j0 k a0 a1 t203 (decide (a1 > 100)))))) = some r := H
  have A3 := Aside0.mk A30
  clear A30
  have HC4 := Aside0.mk H
  clear H
  go_enter Try.func7, Try.ntmps7
  go_upto_region 2 with (first | ((with_reducible refine gate_callee (f := 9) rfl ?_); refine goesL_ (some 17) rfl rfl Try.func9 (by kernel_rfl) rfl #[] rfl (by (try simp only [List.map_toArray, List.map_cons, List.map_nil]); first | done | rfl | (simp only [List.length_drop, List.length_take]; rfl)) ?_; (with_reducible refine (ferrulelaw03_shown.calls  t203 _ A3.out).mono ?_); rintro e w5 ⟨rfl, hb⟩; refine ⟨_, rfl, ?_⟩; have n0_ := Aside0.mk (below_step (by repeat (first | (with_reducible first | exact HB.out | apply below_alloc | apply pw_below_drewN | apply below_drew1) | exact HB.out)) hb); clear HB; have HB := n0_; clear n0_; (try clear hb); (try clear hb2); (try clear hk); (try clear hi)))
  (try simp only [Act.put, List.setIfInBounds_toArray, List.set_cons_zero, List.set_cons_succ])
  go_cut [31] (fun v31 wc => ∃ (kq : Nat) (x31_3 : Bool), v31 = .bool x31_3 ∧ Aside0 (ferrulelaw03_TapePower.j0 kq a0 a1 t203 x31_3 = some r) ∧ Aside0 (kq ≤ k) ∧ Aside0 (Below w.heap.size w wc))
  case first =>
    have H := HC4.out
    clear HC4
    by_cases c6 : a0 < 0
    · rw [if_pos c6] at H
      have c6b0 : decide (a0 < 0) = true := decide_eq_true c6
      clear c6
      (first | rw [c6b0] | (simp only [i64_w, i32_w]; rw [c6b0]) | skip)
      have H' := Aside0.mk H
      clear H
      go_wp2
      go_meet
      case rel => exact ⟨_, (true), (by first | rfl | (simp; done) | (simp [*]; done)), H', ⟨by first | omega | exact Nat.le_refl _⟩, ⟨by repeat (first | (with_reducible first | exact HB.out | apply below_alloc | apply pw_below_drewN | apply below_drew1) | exact HB.out)⟩⟩
    · rw [if_neg c6] at H
      have c6b0 : decide (a0 < 0) = false := decide_eq_false c6
      clear c6
      (first | rw [c6b0] | (simp only [i64_w, i32_w]; rw [c6b0]) | skip)
      by_cases c7 : a0 > 100
      · rw [if_pos c7] at H
        have c7b0 : decide (100 < a0) = true := decide_eq_true c7
        clear c7
        have H' := Aside0.mk H
        clear H
        go_wp2
        go_meet
        case rel => exact ⟨_, (true), (by first | rfl | (simp; done) | (simp [*]; done)), H', ⟨by first | omega | exact Nat.le_refl _⟩, ⟨by repeat (first | (with_reducible first | exact HB.out | apply below_alloc | apply pw_below_drewN | apply below_drew1) | exact HB.out)⟩⟩
      · rw [if_neg c7] at H
        have c7b0 : decide (100 < a0) = false := decide_eq_false c7
        clear c7
        by_cases c8 : a1 < 0
        · rw [if_pos c8] at H
          have c8b0 : decide (a1 < 0) = true := decide_eq_true c8
          clear c8
          have H' := Aside0.mk H
          clear H
          go_wp2
          go_meet
          case rel => exact ⟨_, (true), (by first | rfl | (simp; done) | (simp [*]; done)), H', ⟨by first | omega | exact Nat.le_refl _⟩, ⟨by repeat (first | (with_reducible first | exact HB.out | apply below_alloc | apply pw_below_drewN | apply below_drew1) | exact HB.out)⟩⟩
        · rw [if_neg c8] at H
          have c8b0 : decide (a1 < 0) = false := decide_eq_false c8
          clear c8
          have H' := Aside0.mk H
          clear H
          go_wp2
          go_meet
          case rel => exact ⟨_, (decide (a1 > 100)), (by first | rfl | (simp; done) | (simp [*]; done)), H', ⟨by first | omega | exact Nat.le_refl _⟩, ⟨by repeat (first | (with_reducible first | exact HB.out | apply below_alloc | apply pw_below_drewN | apply below_drew1) | exact HB.out)⟩⟩
  case rest =>
    clear HC4
    try clear p2
    try clear c6
    try clear c6b0
    try clear c7
    try clear c7b0
    try clear c8
    try clear c8b0
    obtain ⟨kq, x31_3, rfl, HA, HJ3, HB⟩ := hcut
    cases kq with
    | zero => exact absurd HA.out (by simp [ferrulelaw03_TapePower.j0])
    | succ kj3 =>
      have H := HA.out
      clear HA
      simp only [ferrulelaw03_TapePower.j0] at H
      by_cases c9 : x31_3 = true
      · subst c9
        have H1 : (some t203) = some r := by rw [if_pos rfl] at H; exact H
        clear H
        have H := H1
        clear H1
        obtain rfl := Option.some.inj H
        go_wp2
        go_ret
        exact ⟨by first | rfl | (simp [errW_none, errW_some] <;> rfl) | (simp [*, errW_none, errW_some] <;> rfl), by repeat (first | (with_reducible first | exact HB.out | apply below_alloc | apply pw_below_drewN | apply below_drew1) | exact HB.out)⟩
      · replace c9 := Bool.eq_false_iff.mpr c9
        subst c9
        have H1 : ((tape_Powered.f (⟨#[]⟩ : ByteArray) (⟨#[]⟩ : ByteArray) 0 false a0).bind fun bt204 => (ferrulelaw03_TapePower.l0 kj3 a0 a1 t203 0 bt204.1 bt204.2.1 bt204.2.2.1 bt204.2.2.2)) = some r := by rw [if_neg (show ¬ (false = true) by decide)] at H; exact H
        clear H
        have H := H1
        clear H1
        replace H := Option.bind_eq_some_iff.mp H
        obtain ⟨⟨t204, t205, t206, t207⟩, A100, H⟩ := H
        replace H : (ferrulelaw03_TapePower.l0 kj3 a0 a1 t203 0 t204 t205 t206 t207) = some r := H
        have A10 := Aside0.mk A100
        clear A100
        have H' := Aside0.mk H
        clear H
        go_wp2_with (first | ((with_reducible refine gate_callee (f := 14) rfl ?_); refine goesL_ (some 35) rfl rfl Try.func14 (by kernel_rfl) rfl #[.agg #[.string (⟨#[]⟩ : ByteArray), .string (⟨#[]⟩ : ByteArray), .int .i64 0, .bool false], .int .i64 a0] rfl (by (try simp only [List.map_toArray, List.map_cons, List.map_nil]); first | done | rfl | (simp only [List.length_drop, List.length_take]; rfl)) ?_; (with_reducible refine (tape_Powered.calls (⟨#[]⟩ : ByteArray) (⟨#[]⟩ : ByteArray) 0 false a0 t204 t205 t206 t207 _ A10.out).mono ?_); rintro e w11 ⟨rfl, hb⟩; refine ⟨_, rfl, ?_⟩; have n0_ := Aside0.mk (below_step (by repeat (first | (with_reducible first | exact HB.out | apply below_alloc | apply pw_below_drewN | apply below_drew1) | exact HB.out)) hb); clear HB; have HB := n0_; clear n0_; (try clear hb); (try clear hb2); (try clear hk); (try clear hi)) | ((with_reducible refine gate_dst (N := 6) rfl ?_); (try (refine gate_guard (by rfl) ?_; dsimp only)); refine box_event ?hg (N := 6) ?hd (cs := #[.string (⟨#[]⟩ : ByteArray), .string (⟨#[]⟩ : ByteArray), .int .i64 0, .bool false]) (t := 23) ?hr ?_; (case hd => rfl); (case hg => rfl); (case hr => first | (go_simp; done) | (go_simp; rfl)); intro gb208 hg w12 hbox hb; have n0_ := Aside0.mk (below_step (by repeat (first | (with_reducible first | exact HB.out | apply below_alloc | apply pw_below_drewN | apply below_drew1) | exact HB.out)) hb); have n1_ := Aside0.mk (hbox); have n2_ := Aside0.mk ((by rw [hg]; exact (below_size (by repeat (first | (with_reducible first | exact HB.out | apply below_alloc | apply pw_below_drewN | apply below_drew1) | exact HB.out))) : w.heap.size ≤ gb208)); have n3_ := Aside0.mk ((by rw [hg]; exact (below_size (by repeat (first | (with_reducible first | exact HB.out | apply below_alloc | apply pw_below_drewN | apply below_drew1) | exact HB.out))) : w.heap.size ≤ gb208)); clear HB; have HB := n0_; have BK208 := n1_; have GW208 := n2_; have GE208 := n3_; clear n0_ n1_ n2_ n3_; clear hb hbox hg; have hcz13_0 : w12.cell? ⟨gb208, 0, none⟩ = some (.string (⟨#[]⟩ : ByteArray)) := (blk_cell BK208.out 0).trans rfl; have hcz13_1 : w12.cell? ⟨gb208, 1, none⟩ = some (.string (⟨#[]⟩ : ByteArray)) := (blk_cell BK208.out 1).trans rfl; have hcz13_2 : w12.cell? ⟨gb208, 2, none⟩ = some (.int .i64 0) := (blk_cell BK208.out 2).trans rfl; have hcz13_3 : w12.cell? ⟨gb208, 3, none⟩ = some (.bool false) := (blk_cell BK208.out 3).trans rfl; have hfz13_0 := blk_frozen BK208.out 0; have hfz13_1 := blk_frozen BK208.out 1; have hfz13_2 := blk_frozen BK208.out 2; have hfz13_3 := blk_frozen BK208.out 3))
        go_loopg [7] kj3 (fun kq v7 w' => ∃ (x7_2 : Int) (x209000_2 : ByteArray) (x209001_2 : ByteArray) (x209002_2 : Int) (x209003_2 : Bool), v7 = .int .i64 x7_2 ∧ Aside0 (ferrulelaw03_TapePower.l0 kq a0 a1 t203 x7_2 x209000_2 x209001_2 x209002_2 x209003_2 = some r) ∧ Aside0 (kq ≤ kj3) ∧ Aside0 (w'.heap[gb208]? = some (.cells #[.string x209000_2, .string x209001_2, .int .i64 x209002_2, .bool x209003_2] 23 (0, 0))) ∧ Aside0 (Below w.heap.size w w'))
        case atStart => exact ⟨(0), (t204), (t205), (t206), (t207), (by first | rfl | (simp; done) | (simp [*]; done)), H', ⟨Nat.le_refl _⟩, ⟨by (with_reducible repeat (first | refine blk_drewN ?_ _ | refine blk_drew ?_ | refine blk_alloc ?_ _)); refine blk_put (cs := #[.string t204, .string t205, .int .i64 t206, .bool false]) ?_ 3 _ rfl; (with_reducible repeat (first | refine blk_drewN ?_ _ | refine blk_drew ?_ | refine blk_alloc ?_ _)); refine blk_put (cs := #[.string t204, .string t205, .int .i64 0, .bool false]) ?_ 2 _ rfl; (with_reducible repeat (first | refine blk_drewN ?_ _ | refine blk_drew ?_ | refine blk_alloc ?_ _)); refine blk_put (cs := #[.string t204, .string (⟨#[]⟩ : ByteArray), .int .i64 0, .bool false]) ?_ 1 _ rfl; (with_reducible repeat (first | refine blk_drewN ?_ _ | refine blk_drew ?_ | refine blk_alloc ?_ _)); refine blk_put (cs := #[.string (⟨#[]⟩ : ByteArray), .string (⟨#[]⟩ : ByteArray), .int .i64 0, .bool false]) ?_ 0 _ rfl; (with_reducible repeat (first | refine blk_drewN ?_ _ | refine blk_drew ?_ | refine blk_alloc ?_ _)); exact BK208.out⟩, ⟨by repeat (first | (with_reducible first | exact HB.out | apply below_alloc | apply pw_below_drewN | apply below_drew1 | refine below_set ?_ GE208.out) | exact HB.out)⟩⟩
        case round =>
          clear H'
          try clear c1
          try clear p2
          try clear c6
          try clear c6b0
          try clear c7
          try clear c7b0
          try clear c8
          try clear c8b0
          try clear c9
          try clear hcz13_0
          try clear hcz13_1
          try clear hcz13_2
          try clear hcz13_3
          try clear hfz13_0
          try clear hfz13_1
          try clear hfz13_2
          try clear hfz13_3
          try clear p2
          obtain ⟨x7_2, x209000_2, x209001_2, x209002_2, x209003_2, rfl, HA, HK2, BK208, HB⟩ := hrel
          cases gk with
          | zero => exact absurd HA.out (by simp [ferrulelaw03_TapePower.l0])
          | succ k2 =>
            have H := HA.out
            clear HA
            simp only [ferrulelaw03_TapePower.l0] at H
            by_cases c14 : x7_2 < a0
            · rw [if_pos c14] at H
              have c14b0 : decide (x7_2 < a0) = true := decide_eq_true c14
              clear c14
              replace H := Option.bind_eq_some_iff.mp H
              obtain ⟨⟨t209, t210, t211, t212, t213⟩, A150, H⟩ := H
              replace H : (if t213 = 0 then (if t212 = true then (some false) else (ferrulelaw03_TapePower.l0 k2 a0 a1 t203 (wrap64 (x7_2 + 1)) t209 t210 t211 t212)) else (some false)) = some r := H
              have A15 := Aside0.mk A150
              clear A150
              by_cases c16 : t213 = 0
              · rw [if_pos c16] at H
                have c16b0 : (t213 == 0) = true := beq_iff_eq.mpr c16
                have c16b1 : (t213 != 0) = false := bne_eq_false_iff_eq.mpr c16
                clear c16
                by_cases c17 : t212 = true
                · subst c17
                  have H1 : (some false) = some r := by rw [if_pos rfl] at H; exact H
                  clear H
                  have H := H1
                  clear H1
                  obtain rfl := Option.some.inj H
                  have hcz18_0 : wr.cell? ⟨gb208, 0, none⟩ = some (.string x209000_2) := (blk_cell BK208.out 0).trans rfl
                  have hcz18_1 : wr.cell? ⟨gb208, 1, none⟩ = some (.string x209001_2) := (blk_cell BK208.out 1).trans rfl
                  have hcz18_2 : wr.cell? ⟨gb208, 2, none⟩ = some (.int .i64 x209002_2) := (blk_cell BK208.out 2).trans rfl
                  have hcz18_3 : wr.cell? ⟨gb208, 3, none⟩ = some (.bool x209003_2) := (blk_cell BK208.out 3).trans rfl
                  have hfz18_0 := blk_frozen BK208.out 0
                  have hfz18_1 := blk_frozen BK208.out 1
                  have hfz18_2 := blk_frozen BK208.out 2
                  have hfz18_3 := blk_frozen BK208.out 3
                  go_wp2_with (first | ((with_reducible refine gate_callee (f := 10) rfl ?_); refine goesL_ (some 43) rfl rfl Try.func10 (by kernel_rfl) rfl #[.agg #[.string x209000_2, .string x209001_2, .int .i64 x209002_2, .bool x209003_2], .string (⟨#[120]⟩ : ByteArray)] rfl (by (try simp only [List.map_toArray, List.map_cons, List.map_nil]); first | done | rfl | (simp only [List.length_drop, List.length_take]; rfl)) ?_; (with_reducible refine (tape_Write.calls x209000_2 x209001_2 x209002_2 x209003_2 (⟨#[120]⟩ : ByteArray) t209 t210 t211 true t213 _ A15.out).mono ?_); rintro e w19 ⟨rfl, hb⟩; refine ⟨_, rfl, ?_⟩; have n0_ := Aside0.mk (blk_below (g := gb208) (o := .cells #[.string x209000_2, .string x209001_2, .int .i64 x209002_2, .bool x209003_2] 23 (0, 0)) (by (with_reducible repeat (first | refine blk_drewN ?_ _ | refine blk_drew ?_ | refine blk_alloc ?_ _)); exact BK208.out) hb); have n1_ := Aside0.mk (below_step (by repeat (first | (with_reducible first | exact HB.out | apply below_alloc | apply pw_below_drewN | apply below_drew1 | refine below_set ?_ GE208.out) | exact HB.out)) hb); clear BK208; clear HB; have BK208 := n0_; have HB := n1_; clear n0_ n1_; (try clear hb); (try clear hb2); (try clear hk); (try clear hi)) | ((with_reducible refine gate_dst (N := 8) rfl ?_); (try (refine gate_guard (by rfl) ?_; dsimp only)); refine box_event ?hg (N := 8) ?hd (cs := #[.string (⟨#[]⟩ : ByteArray), .string (⟨#[]⟩ : ByteArray), .int .i64 0, .bool false]) (t := 23) ?hr ?_; (case hd => rfl); (case hg => rfl); (case hr => first | (go_simp; done) | (go_simp; rfl)); intro gb214 hg w20 hbox hb; have n0_ := Aside0.mk (blk_below (g := gb208) (o := .cells #[.string x209000_2, .string x209001_2, .int .i64 x209002_2, .bool x209003_2] 23 (0, 0)) (by (with_reducible repeat (first | refine blk_drewN ?_ _ | refine blk_drew ?_ | refine blk_alloc ?_ _)); exact BK208.out) hb); have n1_ := Aside0.mk (below_step (by repeat (first | (with_reducible first | exact HB.out | apply below_alloc | apply pw_below_drewN | apply below_drew1 | refine below_set ?_ GE208.out) | exact HB.out)) hb); have n2_ := Aside0.mk (hbox); have n3_ := Aside0.mk ((by rw [hg]; exact (below_size (by repeat (first | (with_reducible first | exact HB.out | apply below_alloc | apply pw_below_drewN | apply below_drew1 | refine below_set ?_ GE208.out) | exact HB.out))) : w.heap.size ≤ gb214)); have n4_ := Aside0.mk ((by rw [hg]; exact (below_size (by repeat (first | (with_reducible first | exact HB.out | apply below_alloc | apply pw_below_drewN | apply below_drew1 | refine below_set ?_ GE208.out) | exact HB.out))) : w.heap.size ≤ gb214)); have n5_ := Aside0.mk ((by rw [hg]; exact Nat.ne_of_lt (blk_lt (g := gb208) (o := .cells #[.string x209000_2, .string x209001_2, .int .i64 x209002_2, .bool x209003_2] 23 (0, 0)) (by (with_reducible repeat (first | refine blk_drewN ?_ _ | refine blk_drew ?_ | refine blk_alloc ?_ _)); exact BK208.out)) : gb208 ≠ gb214)); have n6_ := Aside0.mk ((by rw [hg]; exact Nat.ne_of_gt (blk_lt (g := gb208) (o := .cells #[.string x209000_2, .string x209001_2, .int .i64 x209002_2, .bool x209003_2] 23 (0, 0)) (by (with_reducible repeat (first | refine blk_drewN ?_ _ | refine blk_drew ?_ | refine blk_alloc ?_ _)); exact BK208.out)) : gb214 ≠ gb208)); clear BK208; clear HB; have BK208 := n0_; have HB := n1_; have BK214 := n2_; have GW214 := n3_; have GE214 := n4_; have NB208_214 := n5_; have NB214_208 := n6_; clear n0_ n1_ n2_ n3_ n4_ n5_ n6_; clear hb hbox hg; have hnb21 := NB214_208.out; have hnc21 := NB208_214.out; have hcz22_0 : w20.cell? ⟨gb214, 0, none⟩ = some (.string (⟨#[]⟩ : ByteArray)) := (blk_cell BK214.out 0).trans rfl; have hcz22_1 : w20.cell? ⟨gb214, 1, none⟩ = some (.string (⟨#[]⟩ : ByteArray)) := (blk_cell BK214.out 1).trans rfl; have hcz22_2 : w20.cell? ⟨gb214, 2, none⟩ = some (.int .i64 0) := (blk_cell BK214.out 2).trans rfl; have hcz22_3 : w20.cell? ⟨gb214, 3, none⟩ = some (.bool false) := (blk_cell BK214.out 3).trans rfl; have hfz22_0 := blk_frozen BK214.out 0; have hfz22_1 := blk_frozen BK214.out 1; have hfz22_2 := blk_frozen BK214.out 2; have hfz22_3 := blk_frozen BK214.out 3))
                  go_ret
                  exact ⟨by first | rfl | (simp [errW_none, errW_some] <;> rfl) | (simp [*, errW_none, errW_some] <;> rfl), by repeat (first | (with_reducible first | exact HB.out | apply below_alloc | apply pw_below_drewN | apply below_drew1 | refine below_set ?_ GE208.out | refine below_set ?_ GE214.out) | exact HB.out)⟩
                · replace c17 := Bool.eq_false_iff.mpr c17
                  subst c17
                  have H1 : (ferrulelaw03_TapePower.l0 k2 a0 a1 t203 (wrap64 (x7_2 + 1)) t209 t210 t211 false) = some r := by rw [if_neg (show ¬ (false = true) by decide)] at H; exact H
                  clear H
                  have H := H1
                  clear H1
                  have H' := Aside0.mk H
                  clear H
                  have hcz23_0 : wr.cell? ⟨gb208, 0, none⟩ = some (.string x209000_2) := (blk_cell BK208.out 0).trans rfl
                  have hcz23_1 : wr.cell? ⟨gb208, 1, none⟩ = some (.string x209001_2) := (blk_cell BK208.out 1).trans rfl
                  have hcz23_2 : wr.cell? ⟨gb208, 2, none⟩ = some (.int .i64 x209002_2) := (blk_cell BK208.out 2).trans rfl
                  have hcz23_3 : wr.cell? ⟨gb208, 3, none⟩ = some (.bool x209003_2) := (blk_cell BK208.out 3).trans rfl
                  have hfz23_0 := blk_frozen BK208.out 0
                  have hfz23_1 := blk_frozen BK208.out 1
                  have hfz23_2 := blk_frozen BK208.out 2
                  have hfz23_3 := blk_frozen BK208.out 3
                  go_wp2_with (first | ((with_reducible refine gate_callee (f := 10) rfl ?_); refine goesL_ (some 43) rfl rfl Try.func10 (by kernel_rfl) rfl #[.agg #[.string x209000_2, .string x209001_2, .int .i64 x209002_2, .bool x209003_2], .string (⟨#[120]⟩ : ByteArray)] rfl (by (try simp only [List.map_toArray, List.map_cons, List.map_nil]); first | done | rfl | (simp only [List.length_drop, List.length_take]; rfl)) ?_; (with_reducible refine (tape_Write.calls x209000_2 x209001_2 x209002_2 x209003_2 (⟨#[120]⟩ : ByteArray) t209 t210 t211 false t213 _ A15.out).mono ?_); rintro e w24 ⟨rfl, hb⟩; refine ⟨_, rfl, ?_⟩; have n0_ := Aside0.mk (blk_below (g := gb208) (o := .cells #[.string x209000_2, .string x209001_2, .int .i64 x209002_2, .bool x209003_2] 23 (0, 0)) (by (with_reducible repeat (first | refine blk_drewN ?_ _ | refine blk_drew ?_ | refine blk_alloc ?_ _)); exact BK208.out) hb); have n1_ := Aside0.mk (below_step (by repeat (first | (with_reducible first | exact HB.out | apply below_alloc | apply pw_below_drewN | apply below_drew1 | refine below_set ?_ GE208.out) | exact HB.out)) hb); clear BK208; clear HB; have BK208 := n0_; have HB := n1_; clear n0_ n1_; (try clear hb); (try clear hb2); (try clear hk); (try clear hi)) | ((with_reducible refine gate_dst (N := 8) rfl ?_); (try (refine gate_guard (by rfl) ?_; dsimp only)); refine box_event ?hg (N := 8) ?hd (cs := #[.string (⟨#[]⟩ : ByteArray), .string (⟨#[]⟩ : ByteArray), .int .i64 0, .bool false]) (t := 23) ?hr ?_; (case hd => rfl); (case hg => rfl); (case hr => first | (go_simp; done) | (go_simp; rfl)); intro gb214 hg w25 hbox hb; have n0_ := Aside0.mk (blk_below (g := gb208) (o := .cells #[.string x209000_2, .string x209001_2, .int .i64 x209002_2, .bool x209003_2] 23 (0, 0)) (by (with_reducible repeat (first | refine blk_drewN ?_ _ | refine blk_drew ?_ | refine blk_alloc ?_ _)); exact BK208.out) hb); have n1_ := Aside0.mk (below_step (by repeat (first | (with_reducible first | exact HB.out | apply below_alloc | apply pw_below_drewN | apply below_drew1 | refine below_set ?_ GE208.out) | exact HB.out)) hb); have n2_ := Aside0.mk (hbox); have n3_ := Aside0.mk ((by rw [hg]; exact (below_size (by repeat (first | (with_reducible first | exact HB.out | apply below_alloc | apply pw_below_drewN | apply below_drew1 | refine below_set ?_ GE208.out) | exact HB.out))) : w.heap.size ≤ gb214)); have n4_ := Aside0.mk ((by rw [hg]; exact (below_size (by repeat (first | (with_reducible first | exact HB.out | apply below_alloc | apply pw_below_drewN | apply below_drew1 | refine below_set ?_ GE208.out) | exact HB.out))) : w.heap.size ≤ gb214)); have n5_ := Aside0.mk ((by rw [hg]; exact Nat.ne_of_lt (blk_lt (g := gb208) (o := .cells #[.string x209000_2, .string x209001_2, .int .i64 x209002_2, .bool x209003_2] 23 (0, 0)) (by (with_reducible repeat (first | refine blk_drewN ?_ _ | refine blk_drew ?_ | refine blk_alloc ?_ _)); exact BK208.out)) : gb208 ≠ gb214)); have n6_ := Aside0.mk ((by rw [hg]; exact Nat.ne_of_gt (blk_lt (g := gb208) (o := .cells #[.string x209000_2, .string x209001_2, .int .i64 x209002_2, .bool x209003_2] 23 (0, 0)) (by (with_reducible repeat (first | refine blk_drewN ?_ _ | refine blk_drew ?_ | refine blk_alloc ?_ _)); exact BK208.out)) : gb214 ≠ gb208)); clear BK208; clear HB; have BK208 := n0_; have HB := n1_; have BK214 := n2_; have GW214 := n3_; have GE214 := n4_; have NB208_214 := n5_; have NB214_208 := n6_; clear n0_ n1_ n2_ n3_ n4_ n5_ n6_; clear hb hbox hg; have hnb26 := NB214_208.out; have hnc26 := NB208_214.out; have hcz27_0 : w25.cell? ⟨gb214, 0, none⟩ = some (.string (⟨#[]⟩ : ByteArray)) := (blk_cell BK214.out 0).trans rfl; have hcz27_1 : w25.cell? ⟨gb214, 1, none⟩ = some (.string (⟨#[]⟩ : ByteArray)) := (blk_cell BK214.out 1).trans rfl; have hcz27_2 : w25.cell? ⟨gb214, 2, none⟩ = some (.int .i64 0) := (blk_cell BK214.out 2).trans rfl; have hcz27_3 : w25.cell? ⟨gb214, 3, none⟩ = some (.bool false) := (blk_cell BK214.out 3).trans rfl; have hfz27_0 := blk_frozen BK214.out 0; have hfz27_1 := blk_frozen BK214.out 1; have hfz27_2 := blk_frozen BK214.out 2; have hfz27_3 := blk_frozen BK214.out 3; have hcz28_0 : w25.cell? ⟨gb208, 0, none⟩ = some (.string x209000_2) := (blk_cell BK208.out 0).trans rfl; have hcz28_1 : w25.cell? ⟨gb208, 1, none⟩ = some (.string x209001_2) := (blk_cell BK208.out 1).trans rfl; have hcz28_2 : w25.cell? ⟨gb208, 2, none⟩ = some (.int .i64 x209002_2) := (blk_cell BK208.out 2).trans rfl; have hcz28_3 : w25.cell? ⟨gb208, 3, none⟩ = some (.bool x209003_2) := (blk_cell BK208.out 3).trans rfl; have hfz28_0 := blk_frozen BK208.out 0; have hfz28_1 := blk_frozen BK208.out 1; have hfz28_2 := blk_frozen BK208.out 2; have hfz28_3 := blk_frozen BK208.out 3))
                  go_roundg k2
                  case measure => have := HJ3.out; have := HK2.out; omega
                  case rel => exact ⟨(wrap64 (x7_2 + 1)), (t209), (t210), (t211), (false), (by first | rfl | (simp; done) | (simp [*]; done)), H', ⟨by have := HJ3.out; have := HK2.out; omega⟩, ⟨by (with_reducible repeat (first | refine blk_drewN ?_ _ | refine blk_drew ?_ | refine blk_alloc ?_ _)); refine blk_put (cs := #[.string t209, .string t210, .int .i64 t211, .bool x209003_2]) ?_ 3 _ rfl; (with_reducible repeat (first | refine blk_drewN ?_ _ | refine blk_drew ?_ | refine blk_alloc ?_ _)); refine blk_put (cs := #[.string t209, .string t210, .int .i64 x209002_2, .bool x209003_2]) ?_ 2 _ rfl; (with_reducible repeat (first | refine blk_drewN ?_ _ | refine blk_drew ?_ | refine blk_alloc ?_ _)); refine blk_put (cs := #[.string t209, .string x209001_2, .int .i64 x209002_2, .bool x209003_2]) ?_ 1 _ rfl; (with_reducible repeat (first | refine blk_drewN ?_ _ | refine blk_drew ?_ | refine blk_alloc ?_ _)); refine blk_put (cs := #[.string x209000_2, .string x209001_2, .int .i64 x209002_2, .bool x209003_2]) ?_ 0 _ rfl; (with_reducible repeat (first | refine blk_drewN ?_ _ | refine blk_drew ?_ | refine blk_alloc ?_ _)); refine blk_far ?_ NB208_214.out _; (with_reducible repeat (first | refine blk_drewN ?_ _ | refine blk_drew ?_ | refine blk_alloc ?_ _)); refine blk_far ?_ NB208_214.out _; (with_reducible repeat (first | refine blk_drewN ?_ _ | refine blk_drew ?_ | refine blk_alloc ?_ _)); refine blk_far ?_ NB208_214.out _; (with_reducible repeat (first | refine blk_drewN ?_ _ | refine blk_drew ?_ | refine blk_alloc ?_ _)); refine blk_far ?_ NB208_214.out _; (with_reducible repeat (first | refine blk_drewN ?_ _ | refine blk_drew ?_ | refine blk_alloc ?_ _)); exact BK208.out⟩, ⟨by repeat (first | (with_reducible first | exact HB.out | apply below_alloc | apply pw_below_drewN | apply below_drew1 | refine below_set ?_ GE208.out | refine below_set ?_ GE214.out) | exact HB.out)⟩⟩
              · rw [if_neg c16] at H
                have c16b0 : (t213 == 0) = false := beq_eq_false_iff_ne.mpr c16
                have c16b1 : (t213 != 0) = true := bne_iff_ne.mpr c16
                obtain rfl := Option.some.inj H
                have hcz29_0 : wr.cell? ⟨gb208, 0, none⟩ = some (.string x209000_2) := (blk_cell BK208.out 0).trans rfl
                have hcz29_1 : wr.cell? ⟨gb208, 1, none⟩ = some (.string x209001_2) := (blk_cell BK208.out 1).trans rfl
                have hcz29_2 : wr.cell? ⟨gb208, 2, none⟩ = some (.int .i64 x209002_2) := (blk_cell BK208.out 2).trans rfl
                have hcz29_3 : wr.cell? ⟨gb208, 3, none⟩ = some (.bool x209003_2) := (blk_cell BK208.out 3).trans rfl
                have hfz29_0 := blk_frozen BK208.out 0
                have hfz29_1 := blk_frozen BK208.out 1
                have hfz29_2 := blk_frozen BK208.out 2
                have hfz29_3 := blk_frozen BK208.out 3
                go_wp2_with (first | ((with_reducible refine gate_callee (f := 10) rfl ?_); refine goesL_ (some 43) rfl rfl Try.func10 (by kernel_rfl) rfl #[.agg #[.string x209000_2, .string x209001_2, .int .i64 x209002_2, .bool x209003_2], .string (⟨#[120]⟩ : ByteArray)] rfl (by (try simp only [List.map_toArray, List.map_cons, List.map_nil]); first | done | rfl | (simp only [List.length_drop, List.length_take]; rfl)) ?_; (with_reducible refine (tape_Write.calls x209000_2 x209001_2 x209002_2 x209003_2 (⟨#[120]⟩ : ByteArray) t209 t210 t211 t212 t213 _ A15.out).mono ?_); rintro e w30 ⟨rfl, hb⟩; refine ⟨_, rfl, ?_⟩; have n0_ := Aside0.mk (blk_below (g := gb208) (o := .cells #[.string x209000_2, .string x209001_2, .int .i64 x209002_2, .bool x209003_2] 23 (0, 0)) (by (with_reducible repeat (first | refine blk_drewN ?_ _ | refine blk_drew ?_ | refine blk_alloc ?_ _)); exact BK208.out) hb); have n1_ := Aside0.mk (below_step (by repeat (first | (with_reducible first | exact HB.out | apply below_alloc | apply pw_below_drewN | apply below_drew1 | refine below_set ?_ GE208.out) | exact HB.out)) hb); clear BK208; clear HB; have BK208 := n0_; have HB := n1_; clear n0_ n1_; (try clear hb); (try clear hb2); (try clear hk); (try clear hi)) | ((with_reducible refine gate_dst (N := 8) rfl ?_); (try (refine gate_guard (by rfl) ?_; dsimp only)); refine box_event ?hg (N := 8) ?hd (cs := #[.string (⟨#[]⟩ : ByteArray), .string (⟨#[]⟩ : ByteArray), .int .i64 0, .bool false]) (t := 23) ?hr ?_; (case hd => rfl); (case hg => rfl); (case hr => first | (go_simp; done) | (go_simp; rfl)); intro gb214 hg w31 hbox hb; have n0_ := Aside0.mk (blk_below (g := gb208) (o := .cells #[.string x209000_2, .string x209001_2, .int .i64 x209002_2, .bool x209003_2] 23 (0, 0)) (by (with_reducible repeat (first | refine blk_drewN ?_ _ | refine blk_drew ?_ | refine blk_alloc ?_ _)); exact BK208.out) hb); have n1_ := Aside0.mk (below_step (by repeat (first | (with_reducible first | exact HB.out | apply below_alloc | apply pw_below_drewN | apply below_drew1 | refine below_set ?_ GE208.out) | exact HB.out)) hb); have n2_ := Aside0.mk (hbox); have n3_ := Aside0.mk ((by rw [hg]; exact (below_size (by repeat (first | (with_reducible first | exact HB.out | apply below_alloc | apply pw_below_drewN | apply below_drew1 | refine below_set ?_ GE208.out) | exact HB.out))) : w.heap.size ≤ gb214)); have n4_ := Aside0.mk ((by rw [hg]; exact (below_size (by repeat (first | (with_reducible first | exact HB.out | apply below_alloc | apply pw_below_drewN | apply below_drew1 | refine below_set ?_ GE208.out) | exact HB.out))) : w.heap.size ≤ gb214)); have n5_ := Aside0.mk ((by rw [hg]; exact Nat.ne_of_lt (blk_lt (g := gb208) (o := .cells #[.string x209000_2, .string x209001_2, .int .i64 x209002_2, .bool x209003_2] 23 (0, 0)) (by (with_reducible repeat (first | refine blk_drewN ?_ _ | refine blk_drew ?_ | refine blk_alloc ?_ _)); exact BK208.out)) : gb208 ≠ gb214)); have n6_ := Aside0.mk ((by rw [hg]; exact Nat.ne_of_gt (blk_lt (g := gb208) (o := .cells #[.string x209000_2, .string x209001_2, .int .i64 x209002_2, .bool x209003_2] 23 (0, 0)) (by (with_reducible repeat (first | refine blk_drewN ?_ _ | refine blk_drew ?_ | refine blk_alloc ?_ _)); exact BK208.out)) : gb214 ≠ gb208)); clear BK208; clear HB; have BK208 := n0_; have HB := n1_; have BK214 := n2_; have GW214 := n3_; have GE214 := n4_; have NB208_214 := n5_; have NB214_208 := n6_; clear n0_ n1_ n2_ n3_ n4_ n5_ n6_; clear hb hbox hg; have hnb32 := NB214_208.out; have hnc32 := NB208_214.out; have hcz33_0 : w31.cell? ⟨gb214, 0, none⟩ = some (.string (⟨#[]⟩ : ByteArray)) := (blk_cell BK214.out 0).trans rfl; have hcz33_1 : w31.cell? ⟨gb214, 1, none⟩ = some (.string (⟨#[]⟩ : ByteArray)) := (blk_cell BK214.out 1).trans rfl; have hcz33_2 : w31.cell? ⟨gb214, 2, none⟩ = some (.int .i64 0) := (blk_cell BK214.out 2).trans rfl; have hcz33_3 : w31.cell? ⟨gb214, 3, none⟩ = some (.bool false) := (blk_cell BK214.out 3).trans rfl; have hfz33_0 := blk_frozen BK214.out 0; have hfz33_1 := blk_frozen BK214.out 1; have hfz33_2 := blk_frozen BK214.out 2; have hfz33_3 := blk_frozen BK214.out 3))
                go_ret
                exact ⟨by first | rfl | (simp [errW_none, errW_some] <;> rfl) | (simp [*, errW_none, errW_some] <;> rfl), by repeat (first | (with_reducible first | exact HB.out | apply below_alloc | apply pw_below_drewN | apply below_drew1 | refine below_set ?_ GE208.out | refine below_set ?_ GE214.out) | exact HB.out)⟩
            · rw [if_neg c14] at H
              have c14b0 : decide (x7_2 < a0) = false := decide_eq_false c14
              clear c14
              have H' := Aside0.mk H
              clear H
              go_wp2
              go_loopg [10] k2 (fun kq v10 w' => ∃ (x10_3 : Int) (x209000_3 : ByteArray) (x209001_3 : ByteArray) (x209002_3 : Int) (x209003_3 : Bool), v10 = .int .i64 x10_3 ∧ Aside0 (ferrulelaw03_TapePower.l1 kq a0 a1 t203 x10_3 x209000_3 x209001_3 x209002_3 x209003_3 = some r) ∧ Aside0 (kq ≤ k2) ∧ Aside0 (w'.heap[gb208]? = some (.cells #[.string x209000_3, .string x209001_3, .int .i64 x209002_3, .bool x209003_3] 23 (0, 0))) ∧ Aside0 (Below w.heap.size w w'))
              case atStart => exact ⟨(0), (x209000_2), (x209001_2), (x209002_2), (x209003_2), (by first | rfl | (simp; done) | (simp [*]; done)), H', ⟨Nat.le_refl _⟩, ⟨by (with_reducible repeat (first | refine blk_drewN ?_ _ | refine blk_drew ?_ | refine blk_alloc ?_ _)); exact BK208.out⟩, ⟨by repeat (first | (with_reducible first | exact HB.out | apply below_alloc | apply pw_below_drewN | apply below_drew1 | refine below_set ?_ GE208.out) | exact HB.out)⟩⟩
              case round =>
                clear H'
                try clear c1
                try clear c2
                try clear p2
                try clear c3
                try clear c6
                try clear c6b0
                try clear p6
                try clear c7
                try clear c7b0
                try clear c8
                try clear c8b0
                try clear c9
                try clear c10
                try clear c14
                try clear c14b0
                try clear c16
                try clear c16b0
                try clear c16b1
                try clear c17
                try clear c21
                try clear c26
                try clear c32
                try clear hcz13_0
                try clear hcz13_1
                try clear hcz13_2
                try clear hcz13_3
                try clear hcz18_0
                try clear hcz18_1
                try clear hcz18_2
                try clear hcz18_3
                try clear hcz22_0
                try clear hcz22_1
                try clear hcz22_2
                try clear hcz22_3
                try clear hcz23_0
                try clear hcz23_1
                try clear hcz23_2
                try clear hcz23_3
                try clear hcz27_0
                try clear hcz27_1
                try clear hcz27_2
                try clear hcz27_3
                try clear hcz28_0
                try clear hcz28_1
                try clear hcz28_2
                try clear hcz28_3
                try clear hcz29_0
                try clear hcz29_1
                try clear hcz29_2
                try clear hcz29_3
                try clear hcz33_0
                try clear hcz33_1
                try clear hcz33_2
                try clear hcz33_3
                try clear hfz13_0
                try clear hfz13_1
                try clear hfz13_2
                try clear hfz13_3
                try clear hfz18_0
                try clear hfz18_1
                try clear hfz18_2
                try clear hfz18_3
                try clear hfz22_0
                try clear hfz22_1
                try clear hfz22_2
                try clear hfz22_3
                try clear hfz23_0
                try clear hfz23_1
                try clear hfz23_2
                try clear hfz23_3
                try clear hfz27_0
                try clear hfz27_1
                try clear hfz27_2
                try clear hfz27_3
                try clear hfz28_0
                try clear hfz28_1
                try clear hfz28_2
                try clear hfz28_3
                try clear hfz29_0
                try clear hfz29_1
                try clear hfz29_2
                try clear hfz29_3
                try clear hfz33_0
                try clear hfz33_1
                try clear hfz33_2
                try clear hfz33_3
                try clear p2
                obtain ⟨x10_3, x209000_3, x209001_3, x209002_3, x209003_3, rfl, HA, HK3, BK208, HB⟩ := hrel
                cases gk with
                | zero => exact absurd HA.out (by simp [ferrulelaw03_TapePower.l1])
                | succ k3 =>
                  have H := HA.out
                  clear HA
                  simp only [ferrulelaw03_TapePower.l1] at H
                  by_cases c34 : x10_3 ≤ a1
                  · rw [if_pos c34] at H
                    have c34b0 : decide (x10_3 ≤ a1) = true := decide_eq_true c34
                    clear c34
                    replace H := Option.bind_eq_some_iff.mp H
                    obtain ⟨⟨t221, t222, t223, t224, t225⟩, A350, H⟩ := H
                    replace H : ((tape_Read.f t221 t222 t223 t224).bind fun bt227 => (if t225 = 6 then (if bt227.2 = 6 then (if t224 = true then (ferrulelaw03_TapePower.l1 k3 a0 a1 t203 (wrap64 (x10_3 + 1)) t221 t222 t223 t224) else (some false)) else (some false)) else (some false))) = some r := H
                    have A35 := Aside0.mk A350
                    clear A350
                    replace H := Option.bind_eq_some_iff.mp H
                    obtain ⟨⟨t227, t228⟩, A360, H⟩ := H
                    replace H : (if t225 = 6 then (if t228 = 6 then (if t224 = true then (ferrulelaw03_TapePower.l1 k3 a0 a1 t203 (wrap64 (x10_3 + 1)) t221 t222 t223 t224) else (some false)) else (some false)) else (some false)) = some r := H
                    have A36 := Aside0.mk A360
                    clear A360
                    by_cases c37 : t225 = 6
                    · rw [if_pos c37] at H
                      have c37b0 : (t225 == 6) = true := beq_iff_eq.mpr c37
                      have c37b1 : (t225 != 6) = false := bne_eq_false_iff_eq.mpr c37
                      clear c37
                      by_cases c38 : t228 = 6
                      · rw [if_pos c38] at H
                        have c38b0 : (t228 == 6) = true := beq_iff_eq.mpr c38
                        have c38b1 : (t228 != 6) = false := bne_eq_false_iff_eq.mpr c38
                        clear c38
                        by_cases c39 : t224 = true
                        · subst c39
                          have H1 : (ferrulelaw03_TapePower.l1 k3 a0 a1 t203 (wrap64 (x10_3 + 1)) t221 t222 t223 true) = some r := by rw [if_pos rfl] at H; exact H
                          clear H
                          have H := H1
                          clear H1
                          have H' := Aside0.mk H
                          clear H
                          have hcz40_0 : wr.cell? ⟨gb208, 0, none⟩ = some (.string x209000_3) := (blk_cell BK208.out 0).trans rfl
                          have hcz40_1 : wr.cell? ⟨gb208, 1, none⟩ = some (.string x209001_3) := (blk_cell BK208.out 1).trans rfl
                          have hcz40_2 : wr.cell? ⟨gb208, 2, none⟩ = some (.int .i64 x209002_3) := (blk_cell BK208.out 2).trans rfl
                          have hcz40_3 : wr.cell? ⟨gb208, 3, none⟩ = some (.bool x209003_3) := (blk_cell BK208.out 3).trans rfl
                          have hfz40_0 := blk_frozen BK208.out 0
                          have hfz40_1 := blk_frozen BK208.out 1
                          have hfz40_2 := blk_frozen BK208.out 2
                          have hfz40_3 := blk_frozen BK208.out 3
                          go_wp2_with (first | ((with_reducible refine gate_callee (f := 16) rfl ?_); refine goesL_ (some 60) rfl rfl Try.func16 (by kernel_rfl) rfl #[.agg #[.string x209000_3, .string x209001_3, .int .i64 x209002_3, .bool x209003_3]] rfl (by (try simp only [List.map_toArray, List.map_cons, List.map_nil]); first | done | rfl | (simp only [List.length_drop, List.length_take]; rfl)) ?_; (with_reducible refine (tape_Sync.calls x209000_3 x209001_3 x209002_3 x209003_3 t221 t222 t223 true t225 _ A35.out).mono ?_); rintro e w41 ⟨rfl, hb⟩; refine ⟨_, rfl, ?_⟩; have n0_ := Aside0.mk (blk_below (g := gb208) (o := .cells #[.string x209000_3, .string x209001_3, .int .i64 x209002_3, .bool x209003_3] 23 (0, 0)) (by (with_reducible repeat (first | refine blk_drewN ?_ _ | refine blk_drew ?_ | refine blk_alloc ?_ _)); exact BK208.out) hb); have n1_ := Aside0.mk (below_step (by repeat (first | (with_reducible first | exact HB.out | apply below_alloc | apply pw_below_drewN | apply below_drew1 | refine below_set ?_ GE208.out) | exact HB.out)) hb); clear BK208; clear HB; have BK208 := n0_; have HB := n1_; clear n0_ n1_; (try clear hb); (try clear hb2); (try clear hk); (try clear hi)) | ((with_reducible refine gate_dst (N := 11) rfl ?_); (try (refine gate_guard (by rfl) ?_; dsimp only)); refine box_event ?hg (N := 11) ?hd (cs := #[.string (⟨#[]⟩ : ByteArray), .string (⟨#[]⟩ : ByteArray), .int .i64 0, .bool false]) (t := 23) ?hr ?_; (case hd => rfl); (case hg => rfl); (case hr => first | (go_simp; done) | (go_simp; rfl)); intro gb226 hg w42 hbox hb; have n0_ := Aside0.mk (blk_below (g := gb208) (o := .cells #[.string x209000_3, .string x209001_3, .int .i64 x209002_3, .bool x209003_3] 23 (0, 0)) (by (with_reducible repeat (first | refine blk_drewN ?_ _ | refine blk_drew ?_ | refine blk_alloc ?_ _)); exact BK208.out) hb); have n1_ := Aside0.mk (below_step (by repeat (first | (with_reducible first | exact HB.out | apply below_alloc | apply pw_below_drewN | apply below_drew1 | refine below_set ?_ GE208.out) | exact HB.out)) hb); have n2_ := Aside0.mk (hbox); have n3_ := Aside0.mk ((by rw [hg]; exact (below_size (by repeat (first | (with_reducible first | exact HB.out | apply below_alloc | apply pw_below_drewN | apply below_drew1 | refine below_set ?_ GE208.out) | exact HB.out))) : w.heap.size ≤ gb226)); have n4_ := Aside0.mk ((by rw [hg]; exact (below_size (by repeat (first | (with_reducible first | exact HB.out | apply below_alloc | apply pw_below_drewN | apply below_drew1 | refine below_set ?_ GE208.out) | exact HB.out))) : w.heap.size ≤ gb226)); have n5_ := Aside0.mk ((by rw [hg]; exact Nat.ne_of_lt (blk_lt (g := gb208) (o := .cells #[.string x209000_3, .string x209001_3, .int .i64 x209002_3, .bool x209003_3] 23 (0, 0)) (by (with_reducible repeat (first | refine blk_drewN ?_ _ | refine blk_drew ?_ | refine blk_alloc ?_ _)); exact BK208.out)) : gb208 ≠ gb226)); have n6_ := Aside0.mk ((by rw [hg]; exact Nat.ne_of_gt (blk_lt (g := gb208) (o := .cells #[.string x209000_3, .string x209001_3, .int .i64 x209002_3, .bool x209003_3] 23 (0, 0)) (by (with_reducible repeat (first | refine blk_drewN ?_ _ | refine blk_drew ?_ | refine blk_alloc ?_ _)); exact BK208.out)) : gb226 ≠ gb208)); clear BK208; clear HB; have BK208 := n0_; have HB := n1_; have BK226 := n2_; have GW226 := n3_; have GE226 := n4_; have NB208_226 := n5_; have NB226_208 := n6_; clear n0_ n1_ n2_ n3_ n4_ n5_ n6_; clear hb hbox hg; have hnb43 := NB226_208.out; have hnc43 := NB208_226.out; have hcz44_0 : w42.cell? ⟨gb226, 0, none⟩ = some (.string (⟨#[]⟩ : ByteArray)) := (blk_cell BK226.out 0).trans rfl; have hcz44_1 : w42.cell? ⟨gb226, 1, none⟩ = some (.string (⟨#[]⟩ : ByteArray)) := (blk_cell BK226.out 1).trans rfl; have hcz44_2 : w42.cell? ⟨gb226, 2, none⟩ = some (.int .i64 0) := (blk_cell BK226.out 2).trans rfl; have hcz44_3 : w42.cell? ⟨gb226, 3, none⟩ = some (.bool false) := (blk_cell BK226.out 3).trans rfl; have hfz44_0 := blk_frozen BK226.out 0; have hfz44_1 := blk_frozen BK226.out 1; have hfz44_2 := blk_frozen BK226.out 2; have hfz44_3 := blk_frozen BK226.out 3) | ((with_reducible refine gate_callee (f := 20) rfl ?_); refine goesL_ (some 65) rfl rfl Try.func20 (by kernel_rfl) rfl #[.agg #[.string t221, .string t222, .int .i64 t223, .bool true]] rfl (by (try simp only [List.map_toArray, List.map_cons, List.map_nil]); first | done | rfl | (simp only [List.length_drop, List.length_take]; rfl)) ?_; (with_reducible refine (tape_Read.calls t221 t222 t223 true t227 t228 _ A36.out).mono ?_); rintro e w45 ⟨rfl, hb⟩; refine ⟨_, rfl, ?_⟩; have n0_ := Aside0.mk (blk_below (g := gb208) (o := .cells #[.string x209000_3, .string x209001_3, .int .i64 x209002_3, .bool x209003_3] 23 (0, 0)) (by (with_reducible repeat (first | refine blk_drewN ?_ _ | refine blk_drew ?_ | refine blk_alloc ?_ _)); refine blk_far ?_ NB208_226.out _; (with_reducible repeat (first | refine blk_drewN ?_ _ | refine blk_drew ?_ | refine blk_alloc ?_ _)); refine blk_far ?_ NB208_226.out _; (with_reducible repeat (first | refine blk_drewN ?_ _ | refine blk_drew ?_ | refine blk_alloc ?_ _)); refine blk_far ?_ NB208_226.out _; (with_reducible repeat (first | refine blk_drewN ?_ _ | refine blk_drew ?_ | refine blk_alloc ?_ _)); refine blk_far ?_ NB208_226.out _; (with_reducible repeat (first | refine blk_drewN ?_ _ | refine blk_drew ?_ | refine blk_alloc ?_ _)); exact BK208.out) hb); have n1_ := Aside0.mk (blk_below (g := gb226) (o := .cells #[.string t221, .string t222, .int .i64 t223, .bool true] 23 (0, 0)) (by (with_reducible repeat (first | refine blk_drewN ?_ _ | refine blk_drew ?_ | refine blk_alloc ?_ _)); refine blk_put (cs := #[.string t221, .string t222, .int .i64 t223, .bool false]) ?_ 3 _ rfl; (with_reducible repeat (first | refine blk_drewN ?_ _ | refine blk_drew ?_ | refine blk_alloc ?_ _)); refine blk_put (cs := #[.string t221, .string t222, .int .i64 0, .bool false]) ?_ 2 _ rfl; (with_reducible repeat (first | refine blk_drewN ?_ _ | refine blk_drew ?_ | refine blk_alloc ?_ _)); refine blk_put (cs := #[.string t221, .string (⟨#[]⟩ : ByteArray), .int .i64 0, .bool false]) ?_ 1 _ rfl; (with_reducible repeat (first | refine blk_drewN ?_ _ | refine blk_drew ?_ | refine blk_alloc ?_ _)); refine blk_put (cs := #[.string (⟨#[]⟩ : ByteArray), .string (⟨#[]⟩ : ByteArray), .int .i64 0, .bool false]) ?_ 0 _ rfl; (with_reducible repeat (first | refine blk_drewN ?_ _ | refine blk_drew ?_ | refine blk_alloc ?_ _)); exact BK226.out) hb); have n2_ := Aside0.mk (below_step (by repeat (first | (with_reducible first | exact HB.out | apply below_alloc | apply pw_below_drewN | apply below_drew1 | refine below_set ?_ GE208.out | refine below_set ?_ GE226.out) | exact HB.out)) hb); clear BK208; clear BK226; clear HB; have BK208 := n0_; have BK226 := n1_; have HB := n2_; clear n0_ n1_ n2_; (try clear hb); (try clear hb2); (try clear hk); (try clear hi); have hcz46_0 : w45.cell? ⟨gb226, 0, none⟩ = some (.string t221) := (blk_cell BK226.out 0).trans rfl; have hcz46_1 : w45.cell? ⟨gb226, 1, none⟩ = some (.string t222) := (blk_cell BK226.out 1).trans rfl; have hcz46_2 : w45.cell? ⟨gb226, 2, none⟩ = some (.int .i64 t223) := (blk_cell BK226.out 2).trans rfl; have hcz46_3 : w45.cell? ⟨gb226, 3, none⟩ = some (.bool true) := (blk_cell BK226.out 3).trans rfl; have hfz46_0 := blk_frozen BK226.out 0; have hfz46_1 := blk_frozen BK226.out 1; have hfz46_2 := blk_frozen BK226.out 2; have hfz46_3 := blk_frozen BK226.out 3; have hcz47_0 : w45.cell? ⟨gb208, 0, none⟩ = some (.string x209000_3) := (blk_cell BK208.out 0).trans rfl; have hcz47_1 : w45.cell? ⟨gb208, 1, none⟩ = some (.string x209001_3) := (blk_cell BK208.out 1).trans rfl; have hcz47_2 : w45.cell? ⟨gb208, 2, none⟩ = some (.int .i64 x209002_3) := (blk_cell BK208.out 2).trans rfl; have hcz47_3 : w45.cell? ⟨gb208, 3, none⟩ = some (.bool x209003_3) := (blk_cell BK208.out 3).trans rfl; have hfz47_0 := blk_frozen BK208.out 0; have hfz47_1 := blk_frozen BK208.out 1; have hfz47_2 := blk_frozen BK208.out 2; have hfz47_3 := blk_frozen BK208.out 3))
                          go_roundg k3
                          case measure => have := HJ3.out; have := HK2.out; have := HK3.out; omega
                          case rel => exact ⟨(wrap64 (x10_3 + 1)), (t221), (t222), (t223), (true), (by first | rfl | (simp; done) | (simp [*]; done)), H', ⟨by have := HJ3.out; have := HK2.out; have := HK3.out; omega⟩, ⟨by (with_reducible repeat (first | refine blk_drewN ?_ _ | refine blk_drew ?_ | refine blk_alloc ?_ _)); refine blk_put (cs := #[.string t221, .string t222, .int .i64 t223, .bool x209003_3]) ?_ 3 _ rfl; (with_reducible repeat (first | refine blk_drewN ?_ _ | refine blk_drew ?_ | refine blk_alloc ?_ _)); refine blk_put (cs := #[.string t221, .string t222, .int .i64 x209002_3, .bool x209003_3]) ?_ 2 _ rfl; (with_reducible repeat (first | refine blk_drewN ?_ _ | refine blk_drew ?_ | refine blk_alloc ?_ _)); refine blk_put (cs := #[.string t221, .string x209001_3, .int .i64 x209002_3, .bool x209003_3]) ?_ 1 _ rfl; (with_reducible repeat (first | refine blk_drewN ?_ _ | refine blk_drew ?_ | refine blk_alloc ?_ _)); refine blk_put (cs := #[.string x209000_3, .string x209001_3, .int .i64 x209002_3, .bool x209003_3]) ?_ 0 _ rfl; (with_reducible repeat (first | refine blk_drewN ?_ _ | refine blk_drew ?_ | refine blk_alloc ?_ _)); exact BK208.out⟩, ⟨by repeat (first | (with_reducible first | exact HB.out | apply below_alloc | apply pw_below_drewN | apply below_drew1 | refine below_set ?_ GE208.out | refine below_set ?_ GE226.out) | exact HB.out)⟩⟩
                        · replace c39 := Bool.eq_false_iff.mpr c39
                          subst c39
                          have H1 : (some false) = some r := by rw [if_neg (show ¬ (false = true) by decide)] at H; exact H
                          clear H
                          have H := H1
                          clear H1
                          obtain rfl := Option.some.inj H
                          have hcz48_0 : wr.cell? ⟨gb208, 0, none⟩ = some (.string x209000_3) := (blk_cell BK208.out 0).trans rfl
                          have hcz48_1 : wr.cell? ⟨gb208, 1, none⟩ = some (.string x209001_3) := (blk_cell BK208.out 1).trans rfl
                          have hcz48_2 : wr.cell? ⟨gb208, 2, none⟩ = some (.int .i64 x209002_3) := (blk_cell BK208.out 2).trans rfl
                          have hcz48_3 : wr.cell? ⟨gb208, 3, none⟩ = some (.bool x209003_3) := (blk_cell BK208.out 3).trans rfl
                          have hfz48_0 := blk_frozen BK208.out 0
                          have hfz48_1 := blk_frozen BK208.out 1
                          have hfz48_2 := blk_frozen BK208.out 2
                          have hfz48_3 := blk_frozen BK208.out 3
                          go_wp2_with (first | ((with_reducible refine gate_callee (f := 16) rfl ?_); refine goesL_ (some 60) rfl rfl Try.func16 (by kernel_rfl) rfl #[.agg #[.string x209000_3, .string x209001_3, .int .i64 x209002_3, .bool x209003_3]] rfl (by (try simp only [List.map_toArray, List.map_cons, List.map_nil]); first | done | rfl | (simp only [List.length_drop, List.length_take]; rfl)) ?_; (with_reducible refine (tape_Sync.calls x209000_3 x209001_3 x209002_3 x209003_3 t221 t222 t223 false t225 _ A35.out).mono ?_); rintro e w49 ⟨rfl, hb⟩; refine ⟨_, rfl, ?_⟩; have n0_ := Aside0.mk (blk_below (g := gb208) (o := .cells #[.string x209000_3, .string x209001_3, .int .i64 x209002_3, .bool x209003_3] 23 (0, 0)) (by (with_reducible repeat (first | refine blk_drewN ?_ _ | refine blk_drew ?_ | refine blk_alloc ?_ _)); exact BK208.out) hb); have n1_ := Aside0.mk (below_step (by repeat (first | (with_reducible first | exact HB.out | apply below_alloc | apply pw_below_drewN | apply below_drew1 | refine below_set ?_ GE208.out) | exact HB.out)) hb); clear BK208; clear HB; have BK208 := n0_; have HB := n1_; clear n0_ n1_; (try clear hb); (try clear hb2); (try clear hk); (try clear hi)) | ((with_reducible refine gate_dst (N := 11) rfl ?_); (try (refine gate_guard (by rfl) ?_; dsimp only)); refine box_event ?hg (N := 11) ?hd (cs := #[.string (⟨#[]⟩ : ByteArray), .string (⟨#[]⟩ : ByteArray), .int .i64 0, .bool false]) (t := 23) ?hr ?_; (case hd => rfl); (case hg => rfl); (case hr => first | (go_simp; done) | (go_simp; rfl)); intro gb226 hg w50 hbox hb; have n0_ := Aside0.mk (blk_below (g := gb208) (o := .cells #[.string x209000_3, .string x209001_3, .int .i64 x209002_3, .bool x209003_3] 23 (0, 0)) (by (with_reducible repeat (first | refine blk_drewN ?_ _ | refine blk_drew ?_ | refine blk_alloc ?_ _)); exact BK208.out) hb); have n1_ := Aside0.mk (below_step (by repeat (first | (with_reducible first | exact HB.out | apply below_alloc | apply pw_below_drewN | apply below_drew1 | refine below_set ?_ GE208.out) | exact HB.out)) hb); have n2_ := Aside0.mk (hbox); have n3_ := Aside0.mk ((by rw [hg]; exact (below_size (by repeat (first | (with_reducible first | exact HB.out | apply below_alloc | apply pw_below_drewN | apply below_drew1 | refine below_set ?_ GE208.out) | exact HB.out))) : w.heap.size ≤ gb226)); have n4_ := Aside0.mk ((by rw [hg]; exact (below_size (by repeat (first | (with_reducible first | exact HB.out | apply below_alloc | apply pw_below_drewN | apply below_drew1 | refine below_set ?_ GE208.out) | exact HB.out))) : w.heap.size ≤ gb226)); have n5_ := Aside0.mk ((by rw [hg]; exact Nat.ne_of_lt (blk_lt (g := gb208) (o := .cells #[.string x209000_3, .string x209001_3, .int .i64 x209002_3, .bool x209003_3] 23 (0, 0)) (by (with_reducible repeat (first | refine blk_drewN ?_ _ | refine blk_drew ?_ | refine blk_alloc ?_ _)); exact BK208.out)) : gb208 ≠ gb226)); have n6_ := Aside0.mk ((by rw [hg]; exact Nat.ne_of_gt (blk_lt (g := gb208) (o := .cells #[.string x209000_3, .string x209001_3, .int .i64 x209002_3, .bool x209003_3] 23 (0, 0)) (by (with_reducible repeat (first | refine blk_drewN ?_ _ | refine blk_drew ?_ | refine blk_alloc ?_ _)); exact BK208.out)) : gb226 ≠ gb208)); clear BK208; clear HB; have BK208 := n0_; have HB := n1_; have BK226 := n2_; have GW226 := n3_; have GE226 := n4_; have NB208_226 := n5_; have NB226_208 := n6_; clear n0_ n1_ n2_ n3_ n4_ n5_ n6_; clear hb hbox hg; have hnb51 := NB226_208.out; have hnc51 := NB208_226.out; have hcz52_0 : w50.cell? ⟨gb226, 0, none⟩ = some (.string (⟨#[]⟩ : ByteArray)) := (blk_cell BK226.out 0).trans rfl; have hcz52_1 : w50.cell? ⟨gb226, 1, none⟩ = some (.string (⟨#[]⟩ : ByteArray)) := (blk_cell BK226.out 1).trans rfl; have hcz52_2 : w50.cell? ⟨gb226, 2, none⟩ = some (.int .i64 0) := (blk_cell BK226.out 2).trans rfl; have hcz52_3 : w50.cell? ⟨gb226, 3, none⟩ = some (.bool false) := (blk_cell BK226.out 3).trans rfl; have hfz52_0 := blk_frozen BK226.out 0; have hfz52_1 := blk_frozen BK226.out 1; have hfz52_2 := blk_frozen BK226.out 2; have hfz52_3 := blk_frozen BK226.out 3) | ((with_reducible refine gate_callee (f := 20) rfl ?_); refine goesL_ (some 65) rfl rfl Try.func20 (by kernel_rfl) rfl #[.agg #[.string t221, .string t222, .int .i64 t223, .bool false]] rfl (by (try simp only [List.map_toArray, List.map_cons, List.map_nil]); first | done | rfl | (simp only [List.length_drop, List.length_take]; rfl)) ?_; (with_reducible refine (tape_Read.calls t221 t222 t223 false t227 t228 _ A36.out).mono ?_); rintro e w53 ⟨rfl, hb⟩; refine ⟨_, rfl, ?_⟩; have n0_ := Aside0.mk (blk_below (g := gb208) (o := .cells #[.string x209000_3, .string x209001_3, .int .i64 x209002_3, .bool x209003_3] 23 (0, 0)) (by (with_reducible repeat (first | refine blk_drewN ?_ _ | refine blk_drew ?_ | refine blk_alloc ?_ _)); refine blk_far ?_ NB208_226.out _; (with_reducible repeat (first | refine blk_drewN ?_ _ | refine blk_drew ?_ | refine blk_alloc ?_ _)); refine blk_far ?_ NB208_226.out _; (with_reducible repeat (first | refine blk_drewN ?_ _ | refine blk_drew ?_ | refine blk_alloc ?_ _)); refine blk_far ?_ NB208_226.out _; (with_reducible repeat (first | refine blk_drewN ?_ _ | refine blk_drew ?_ | refine blk_alloc ?_ _)); refine blk_far ?_ NB208_226.out _; (with_reducible repeat (first | refine blk_drewN ?_ _ | refine blk_drew ?_ | refine blk_alloc ?_ _)); exact BK208.out) hb); have n1_ := Aside0.mk (blk_below (g := gb226) (o := .cells #[.string t221, .string t222, .int .i64 t223, .bool false] 23 (0, 0)) (by (with_reducible repeat (first | refine blk_drewN ?_ _ | refine blk_drew ?_ | refine blk_alloc ?_ _)); refine blk_put (cs := #[.string t221, .string t222, .int .i64 t223, .bool false]) ?_ 3 _ rfl; (with_reducible repeat (first | refine blk_drewN ?_ _ | refine blk_drew ?_ | refine blk_alloc ?_ _)); refine blk_put (cs := #[.string t221, .string t222, .int .i64 0, .bool false]) ?_ 2 _ rfl; (with_reducible repeat (first | refine blk_drewN ?_ _ | refine blk_drew ?_ | refine blk_alloc ?_ _)); refine blk_put (cs := #[.string t221, .string (⟨#[]⟩ : ByteArray), .int .i64 0, .bool false]) ?_ 1 _ rfl; (with_reducible repeat (first | refine blk_drewN ?_ _ | refine blk_drew ?_ | refine blk_alloc ?_ _)); refine blk_put (cs := #[.string (⟨#[]⟩ : ByteArray), .string (⟨#[]⟩ : ByteArray), .int .i64 0, .bool false]) ?_ 0 _ rfl; (with_reducible repeat (first | refine blk_drewN ?_ _ | refine blk_drew ?_ | refine blk_alloc ?_ _)); exact BK226.out) hb); have n2_ := Aside0.mk (below_step (by repeat (first | (with_reducible first | exact HB.out | apply below_alloc | apply pw_below_drewN | apply below_drew1 | refine below_set ?_ GE208.out | refine below_set ?_ GE226.out) | exact HB.out)) hb); clear BK208; clear BK226; clear HB; have BK208 := n0_; have BK226 := n1_; have HB := n2_; clear n0_ n1_ n2_; (try clear hb); (try clear hb2); (try clear hk); (try clear hi); have hcz54_0 : w53.cell? ⟨gb226, 0, none⟩ = some (.string t221) := (blk_cell BK226.out 0).trans rfl; have hcz54_1 : w53.cell? ⟨gb226, 1, none⟩ = some (.string t222) := (blk_cell BK226.out 1).trans rfl; have hcz54_2 : w53.cell? ⟨gb226, 2, none⟩ = some (.int .i64 t223) := (blk_cell BK226.out 2).trans rfl; have hcz54_3 : w53.cell? ⟨gb226, 3, none⟩ = some (.bool false) := (blk_cell BK226.out 3).trans rfl; have hfz54_0 := blk_frozen BK226.out 0; have hfz54_1 := blk_frozen BK226.out 1; have hfz54_2 := blk_frozen BK226.out 2; have hfz54_3 := blk_frozen BK226.out 3))
                          go_ret
                          exact ⟨by first | rfl | (simp [errW_none, errW_some] <;> rfl) | (simp [*, errW_none, errW_some] <;> rfl), by repeat (first | (with_reducible first | exact HB.out | apply below_alloc | apply pw_below_drewN | apply below_drew1 | refine below_set ?_ GE208.out | refine below_set ?_ GE226.out) | exact HB.out)⟩
                      · rw [if_neg c38] at H
                        have c38b0 : (t228 == 6) = false := beq_eq_false_iff_ne.mpr c38
                        have c38b1 : (t228 != 6) = true := bne_iff_ne.mpr c38
                        obtain rfl := Option.some.inj H
                        have hcz55_0 : wr.cell? ⟨gb208, 0, none⟩ = some (.string x209000_3) := (blk_cell BK208.out 0).trans rfl
                        have hcz55_1 : wr.cell? ⟨gb208, 1, none⟩ = some (.string x209001_3) := (blk_cell BK208.out 1).trans rfl
                        have hcz55_2 : wr.cell? ⟨gb208, 2, none⟩ = some (.int .i64 x209002_3) := (blk_cell BK208.out 2).trans rfl
                        have hcz55_3 : wr.cell? ⟨gb208, 3, none⟩ = some (.bool x209003_3) := (blk_cell BK208.out 3).trans rfl
                        have hfz55_0 := blk_frozen BK208.out 0
                        have hfz55_1 := blk_frozen BK208.out 1
                        have hfz55_2 := blk_frozen BK208.out 2
                        have hfz55_3 := blk_frozen BK208.out 3
                        go_wp2_with (first | ((with_reducible refine gate_callee (f := 16) rfl ?_); refine goesL_ (some 60) rfl rfl Try.func16 (by kernel_rfl) rfl #[.agg #[.string x209000_3, .string x209001_3, .int .i64 x209002_3, .bool x209003_3]] rfl (by (try simp only [List.map_toArray, List.map_cons, List.map_nil]); first | done | rfl | (simp only [List.length_drop, List.length_take]; rfl)) ?_; (with_reducible refine (tape_Sync.calls x209000_3 x209001_3 x209002_3 x209003_3 t221 t222 t223 t224 t225 _ A35.out).mono ?_); rintro e w56 ⟨rfl, hb⟩; refine ⟨_, rfl, ?_⟩; have n0_ := Aside0.mk (blk_below (g := gb208) (o := .cells #[.string x209000_3, .string x209001_3, .int .i64 x209002_3, .bool x209003_3] 23 (0, 0)) (by (with_reducible repeat (first | refine blk_drewN ?_ _ | refine blk_drew ?_ | refine blk_alloc ?_ _)); exact BK208.out) hb); have n1_ := Aside0.mk (below_step (by repeat (first | (with_reducible first | exact HB.out | apply below_alloc | apply pw_below_drewN | apply below_drew1 | refine below_set ?_ GE208.out) | exact HB.out)) hb); clear BK208; clear HB; have BK208 := n0_; have HB := n1_; clear n0_ n1_; (try clear hb); (try clear hb2); (try clear hk); (try clear hi)) | ((with_reducible refine gate_dst (N := 11) rfl ?_); (try (refine gate_guard (by rfl) ?_; dsimp only)); refine box_event ?hg (N := 11) ?hd (cs := #[.string (⟨#[]⟩ : ByteArray), .string (⟨#[]⟩ : ByteArray), .int .i64 0, .bool false]) (t := 23) ?hr ?_; (case hd => rfl); (case hg => rfl); (case hr => first | (go_simp; done) | (go_simp; rfl)); intro gb226 hg w57 hbox hb; have n0_ := Aside0.mk (blk_below (g := gb208) (o := .cells #[.string x209000_3, .string x209001_3, .int .i64 x209002_3, .bool x209003_3] 23 (0, 0)) (by (with_reducible repeat (first | refine blk_drewN ?_ _ | refine blk_drew ?_ | refine blk_alloc ?_ _)); exact BK208.out) hb); have n1_ := Aside0.mk (below_step (by repeat (first | (with_reducible first | exact HB.out | apply below_alloc | apply pw_below_drewN | apply below_drew1 | refine below_set ?_ GE208.out) | exact HB.out)) hb); have n2_ := Aside0.mk (hbox); have n3_ := Aside0.mk ((by rw [hg]; exact (below_size (by repeat (first | (with_reducible first | exact HB.out | apply below_alloc | apply pw_below_drewN | apply below_drew1 | refine below_set ?_ GE208.out) | exact HB.out))) : w.heap.size ≤ gb226)); have n4_ := Aside0.mk ((by rw [hg]; exact (below_size (by repeat (first | (with_reducible first | exact HB.out | apply below_alloc | apply pw_below_drewN | apply below_drew1 | refine below_set ?_ GE208.out) | exact HB.out))) : w.heap.size ≤ gb226)); have n5_ := Aside0.mk ((by rw [hg]; exact Nat.ne_of_lt (blk_lt (g := gb208) (o := .cells #[.string x209000_3, .string x209001_3, .int .i64 x209002_3, .bool x209003_3] 23 (0, 0)) (by (with_reducible repeat (first | refine blk_drewN ?_ _ | refine blk_drew ?_ | refine blk_alloc ?_ _)); exact BK208.out)) : gb208 ≠ gb226)); have n6_ := Aside0.mk ((by rw [hg]; exact Nat.ne_of_gt (blk_lt (g := gb208) (o := .cells #[.string x209000_3, .string x209001_3, .int .i64 x209002_3, .bool x209003_3] 23 (0, 0)) (by (with_reducible repeat (first | refine blk_drewN ?_ _ | refine blk_drew ?_ | refine blk_alloc ?_ _)); exact BK208.out)) : gb226 ≠ gb208)); clear BK208; clear HB; have BK208 := n0_; have HB := n1_; have BK226 := n2_; have GW226 := n3_; have GE226 := n4_; have NB208_226 := n5_; have NB226_208 := n6_; clear n0_ n1_ n2_ n3_ n4_ n5_ n6_; clear hb hbox hg; have hnb58 := NB226_208.out; have hnc58 := NB208_226.out; have hcz59_0 : w57.cell? ⟨gb226, 0, none⟩ = some (.string (⟨#[]⟩ : ByteArray)) := (blk_cell BK226.out 0).trans rfl; have hcz59_1 : w57.cell? ⟨gb226, 1, none⟩ = some (.string (⟨#[]⟩ : ByteArray)) := (blk_cell BK226.out 1).trans rfl; have hcz59_2 : w57.cell? ⟨gb226, 2, none⟩ = some (.int .i64 0) := (blk_cell BK226.out 2).trans rfl; have hcz59_3 : w57.cell? ⟨gb226, 3, none⟩ = some (.bool false) := (blk_cell BK226.out 3).trans rfl; have hfz59_0 := blk_frozen BK226.out 0; have hfz59_1 := blk_frozen BK226.out 1; have hfz59_2 := blk_frozen BK226.out 2; have hfz59_3 := blk_frozen BK226.out 3) | ((with_reducible refine gate_callee (f := 20) rfl ?_); refine goesL_ (some 65) rfl rfl Try.func20 (by kernel_rfl) rfl #[.agg #[.string t221, .string t222, .int .i64 t223, .bool t224]] rfl (by (try simp only [List.map_toArray, List.map_cons, List.map_nil]); first | done | rfl | (simp only [List.length_drop, List.length_take]; rfl)) ?_; (with_reducible refine (tape_Read.calls t221 t222 t223 t224 t227 t228 _ A36.out).mono ?_); rintro e w60 ⟨rfl, hb⟩; refine ⟨_, rfl, ?_⟩; have n0_ := Aside0.mk (blk_below (g := gb208) (o := .cells #[.string x209000_3, .string x209001_3, .int .i64 x209002_3, .bool x209003_3] 23 (0, 0)) (by (with_reducible repeat (first | refine blk_drewN ?_ _ | refine blk_drew ?_ | refine blk_alloc ?_ _)); refine blk_far ?_ NB208_226.out _; (with_reducible repeat (first | refine blk_drewN ?_ _ | refine blk_drew ?_ | refine blk_alloc ?_ _)); refine blk_far ?_ NB208_226.out _; (with_reducible repeat (first | refine blk_drewN ?_ _ | refine blk_drew ?_ | refine blk_alloc ?_ _)); refine blk_far ?_ NB208_226.out _; (with_reducible repeat (first | refine blk_drewN ?_ _ | refine blk_drew ?_ | refine blk_alloc ?_ _)); refine blk_far ?_ NB208_226.out _; (with_reducible repeat (first | refine blk_drewN ?_ _ | refine blk_drew ?_ | refine blk_alloc ?_ _)); exact BK208.out) hb); have n1_ := Aside0.mk (blk_below (g := gb226) (o := .cells #[.string t221, .string t222, .int .i64 t223, .bool t224] 23 (0, 0)) (by (with_reducible repeat (first | refine blk_drewN ?_ _ | refine blk_drew ?_ | refine blk_alloc ?_ _)); refine blk_put (cs := #[.string t221, .string t222, .int .i64 t223, .bool false]) ?_ 3 _ rfl; (with_reducible repeat (first | refine blk_drewN ?_ _ | refine blk_drew ?_ | refine blk_alloc ?_ _)); refine blk_put (cs := #[.string t221, .string t222, .int .i64 0, .bool false]) ?_ 2 _ rfl; (with_reducible repeat (first | refine blk_drewN ?_ _ | refine blk_drew ?_ | refine blk_alloc ?_ _)); refine blk_put (cs := #[.string t221, .string (⟨#[]⟩ : ByteArray), .int .i64 0, .bool false]) ?_ 1 _ rfl; (with_reducible repeat (first | refine blk_drewN ?_ _ | refine blk_drew ?_ | refine blk_alloc ?_ _)); refine blk_put (cs := #[.string (⟨#[]⟩ : ByteArray), .string (⟨#[]⟩ : ByteArray), .int .i64 0, .bool false]) ?_ 0 _ rfl; (with_reducible repeat (first | refine blk_drewN ?_ _ | refine blk_drew ?_ | refine blk_alloc ?_ _)); exact BK226.out) hb); have n2_ := Aside0.mk (below_step (by repeat (first | (with_reducible first | exact HB.out | apply below_alloc | apply pw_below_drewN | apply below_drew1 | refine below_set ?_ GE208.out | refine below_set ?_ GE226.out) | exact HB.out)) hb); clear BK208; clear BK226; clear HB; have BK208 := n0_; have BK226 := n1_; have HB := n2_; clear n0_ n1_ n2_; (try clear hb); (try clear hb2); (try clear hk); (try clear hi)))
                        go_ret
                        exact ⟨by first | rfl | (simp [errW_none, errW_some] <;> rfl) | (simp [*, errW_none, errW_some] <;> rfl), by repeat (first | (with_reducible first | exact HB.out | apply below_alloc | apply pw_below_drewN | apply below_drew1 | refine below_set ?_ GE208.out | refine below_set ?_ GE226.out) | exact HB.out)⟩
                    · rw [if_neg c37] at H
                      have c37b0 : (t225 == 6) = false := beq_eq_false_iff_ne.mpr c37
                      have c37b1 : (t225 != 6) = true := bne_iff_ne.mpr c37
                      obtain rfl := Option.some.inj H
                      have hcz61_0 : wr.cell? ⟨gb208, 0, none⟩ = some (.string x209000_3) := (blk_cell BK208.out 0).trans rfl
                      have hcz61_1 : wr.cell? ⟨gb208, 1, none⟩ = some (.string x209001_3) := (blk_cell BK208.out 1).trans rfl
                      have hcz61_2 : wr.cell? ⟨gb208, 2, none⟩ = some (.int .i64 x209002_3) := (blk_cell BK208.out 2).trans rfl
                      have hcz61_3 : wr.cell? ⟨gb208, 3, none⟩ = some (.bool x209003_3) := (blk_cell BK208.out 3).trans rfl
                      have hfz61_0 := blk_frozen BK208.out 0
                      have hfz61_1 := blk_frozen BK208.out 1
                      have hfz61_2 := blk_frozen BK208.out 2
                      have hfz61_3 := blk_frozen BK208.out 3
                      go_wp2_with (first | ((with_reducible refine gate_callee (f := 16) rfl ?_); refine goesL_ (some 60) rfl rfl Try.func16 (by kernel_rfl) rfl #[.agg #[.string x209000_3, .string x209001_3, .int .i64 x209002_3, .bool x209003_3]] rfl (by (try simp only [List.map_toArray, List.map_cons, List.map_nil]); first | done | rfl | (simp only [List.length_drop, List.length_take]; rfl)) ?_; (with_reducible refine (tape_Sync.calls x209000_3 x209001_3 x209002_3 x209003_3 t221 t222 t223 t224 t225 _ A35.out).mono ?_); rintro e w62 ⟨rfl, hb⟩; refine ⟨_, rfl, ?_⟩; have n0_ := Aside0.mk (blk_below (g := gb208) (o := .cells #[.string x209000_3, .string x209001_3, .int .i64 x209002_3, .bool x209003_3] 23 (0, 0)) (by (with_reducible repeat (first | refine blk_drewN ?_ _ | refine blk_drew ?_ | refine blk_alloc ?_ _)); exact BK208.out) hb); have n1_ := Aside0.mk (below_step (by repeat (first | (with_reducible first | exact HB.out | apply below_alloc | apply pw_below_drewN | apply below_drew1 | refine below_set ?_ GE208.out) | exact HB.out)) hb); clear BK208; clear HB; have BK208 := n0_; have HB := n1_; clear n0_ n1_; (try clear hb); (try clear hb2); (try clear hk); (try clear hi)) | ((with_reducible refine gate_dst (N := 11) rfl ?_); (try (refine gate_guard (by rfl) ?_; dsimp only)); refine box_event ?hg (N := 11) ?hd (cs := #[.string (⟨#[]⟩ : ByteArray), .string (⟨#[]⟩ : ByteArray), .int .i64 0, .bool false]) (t := 23) ?hr ?_; (case hd => rfl); (case hg => rfl); (case hr => first | (go_simp; done) | (go_simp; rfl)); intro gb226 hg w63 hbox hb; have n0_ := Aside0.mk (blk_below (g := gb208) (o := .cells #[.string x209000_3, .string x209001_3, .int .i64 x209002_3, .bool x209003_3] 23 (0, 0)) (by (with_reducible repeat (first | refine blk_drewN ?_ _ | refine blk_drew ?_ | refine blk_alloc ?_ _)); exact BK208.out) hb); have n1_ := Aside0.mk (below_step (by repeat (first | (with_reducible first | exact HB.out | apply below_alloc | apply pw_below_drewN | apply below_drew1 | refine below_set ?_ GE208.out) | exact HB.out)) hb); have n2_ := Aside0.mk (hbox); have n3_ := Aside0.mk ((by rw [hg]; exact (below_size (by repeat (first | (with_reducible first | exact HB.out | apply below_alloc | apply pw_below_drewN | apply below_drew1 | refine below_set ?_ GE208.out) | exact HB.out))) : w.heap.size ≤ gb226)); have n4_ := Aside0.mk ((by rw [hg]; exact (below_size (by repeat (first | (with_reducible first | exact HB.out | apply below_alloc | apply pw_below_drewN | apply below_drew1 | refine below_set ?_ GE208.out) | exact HB.out))) : w.heap.size ≤ gb226)); have n5_ := Aside0.mk ((by rw [hg]; exact Nat.ne_of_lt (blk_lt (g := gb208) (o := .cells #[.string x209000_3, .string x209001_3, .int .i64 x209002_3, .bool x209003_3] 23 (0, 0)) (by (with_reducible repeat (first | refine blk_drewN ?_ _ | refine blk_drew ?_ | refine blk_alloc ?_ _)); exact BK208.out)) : gb208 ≠ gb226)); have n6_ := Aside0.mk ((by rw [hg]; exact Nat.ne_of_gt (blk_lt (g := gb208) (o := .cells #[.string x209000_3, .string x209001_3, .int .i64 x209002_3, .bool x209003_3] 23 (0, 0)) (by (with_reducible repeat (first | refine blk_drewN ?_ _ | refine blk_drew ?_ | refine blk_alloc ?_ _)); exact BK208.out)) : gb226 ≠ gb208)); clear BK208; clear HB; have BK208 := n0_; have HB := n1_; have BK226 := n2_; have GW226 := n3_; have GE226 := n4_; have NB208_226 := n5_; have NB226_208 := n6_; clear n0_ n1_ n2_ n3_ n4_ n5_ n6_; clear hb hbox hg; have hnb64 := NB226_208.out; have hnc64 := NB208_226.out; have hcz65_0 : w63.cell? ⟨gb226, 0, none⟩ = some (.string (⟨#[]⟩ : ByteArray)) := (blk_cell BK226.out 0).trans rfl; have hcz65_1 : w63.cell? ⟨gb226, 1, none⟩ = some (.string (⟨#[]⟩ : ByteArray)) := (blk_cell BK226.out 1).trans rfl; have hcz65_2 : w63.cell? ⟨gb226, 2, none⟩ = some (.int .i64 0) := (blk_cell BK226.out 2).trans rfl; have hcz65_3 : w63.cell? ⟨gb226, 3, none⟩ = some (.bool false) := (blk_cell BK226.out 3).trans rfl; have hfz65_0 := blk_frozen BK226.out 0; have hfz65_1 := blk_frozen BK226.out 1; have hfz65_2 := blk_frozen BK226.out 2; have hfz65_3 := blk_frozen BK226.out 3) | ((with_reducible refine gate_callee (f := 20) rfl ?_); refine goesL_ (some 65) rfl rfl Try.func20 (by kernel_rfl) rfl #[.agg #[.string t221, .string t222, .int .i64 t223, .bool t224]] rfl (by (try simp only [List.map_toArray, List.map_cons, List.map_nil]); first | done | rfl | (simp only [List.length_drop, List.length_take]; rfl)) ?_; (with_reducible refine (tape_Read.calls t221 t222 t223 t224 t227 t228 _ A36.out).mono ?_); rintro e w66 ⟨rfl, hb⟩; refine ⟨_, rfl, ?_⟩; have n0_ := Aside0.mk (blk_below (g := gb208) (o := .cells #[.string x209000_3, .string x209001_3, .int .i64 x209002_3, .bool x209003_3] 23 (0, 0)) (by (with_reducible repeat (first | refine blk_drewN ?_ _ | refine blk_drew ?_ | refine blk_alloc ?_ _)); refine blk_far ?_ NB208_226.out _; (with_reducible repeat (first | refine blk_drewN ?_ _ | refine blk_drew ?_ | refine blk_alloc ?_ _)); refine blk_far ?_ NB208_226.out _; (with_reducible repeat (first | refine blk_drewN ?_ _ | refine blk_drew ?_ | refine blk_alloc ?_ _)); refine blk_far ?_ NB208_226.out _; (with_reducible repeat (first | refine blk_drewN ?_ _ | refine blk_drew ?_ | refine blk_alloc ?_ _)); refine blk_far ?_ NB208_226.out _; (with_reducible repeat (first | refine blk_drewN ?_ _ | refine blk_drew ?_ | refine blk_alloc ?_ _)); exact BK208.out) hb); have n1_ := Aside0.mk (blk_below (g := gb226) (o := .cells #[.string t221, .string t222, .int .i64 t223, .bool t224] 23 (0, 0)) (by (with_reducible repeat (first | refine blk_drewN ?_ _ | refine blk_drew ?_ | refine blk_alloc ?_ _)); refine blk_put (cs := #[.string t221, .string t222, .int .i64 t223, .bool false]) ?_ 3 _ rfl; (with_reducible repeat (first | refine blk_drewN ?_ _ | refine blk_drew ?_ | refine blk_alloc ?_ _)); refine blk_put (cs := #[.string t221, .string t222, .int .i64 0, .bool false]) ?_ 2 _ rfl; (with_reducible repeat (first | refine blk_drewN ?_ _ | refine blk_drew ?_ | refine blk_alloc ?_ _)); refine blk_put (cs := #[.string t221, .string (⟨#[]⟩ : ByteArray), .int .i64 0, .bool false]) ?_ 1 _ rfl; (with_reducible repeat (first | refine blk_drewN ?_ _ | refine blk_drew ?_ | refine blk_alloc ?_ _)); refine blk_put (cs := #[.string (⟨#[]⟩ : ByteArray), .string (⟨#[]⟩ : ByteArray), .int .i64 0, .bool false]) ?_ 0 _ rfl; (with_reducible repeat (first | refine blk_drewN ?_ _ | refine blk_drew ?_ | refine blk_alloc ?_ _)); exact BK226.out) hb); have n2_ := Aside0.mk (below_step (by repeat (first | (with_reducible first | exact HB.out | apply below_alloc | apply pw_below_drewN | apply below_drew1 | refine below_set ?_ GE208.out | refine below_set ?_ GE226.out) | exact HB.out)) hb); clear BK208; clear BK226; clear HB; have BK208 := n0_; have BK226 := n1_; have HB := n2_; clear n0_ n1_ n2_; (try clear hb); (try clear hb2); (try clear hk); (try clear hi)))
                      go_ret
                      exact ⟨by first | rfl | (simp [errW_none, errW_some] <;> rfl) | (simp [*, errW_none, errW_some] <;> rfl), by repeat (first | (with_reducible first | exact HB.out | apply below_alloc | apply pw_below_drewN | apply below_drew1 | refine below_set ?_ GE208.out | refine below_set ?_ GE226.out) | exact HB.out)⟩
                  · rw [if_neg c34] at H
                    have c34b0 : decide (x10_3 ≤ a1) = false := decide_eq_false c34
                    clear c34
                    replace H := Option.bind_eq_some_iff.mp H
                    obtain ⟨⟨t215, t216, t217, t218⟩, A670, H⟩ := H
                    replace H : ((tape_Read.f t215 t216 t217 t218).bind fun bt219 => (if t203 = true then (if bt219.2 = 0 then (some ((bt219.1.size : Int) == a0)) else (some false)) else (some false))) = some r := H
                    have A67 := Aside0.mk A670
                    clear A670
                    replace H := Option.bind_eq_some_iff.mp H
                    obtain ⟨⟨t219, t220⟩, A680, H⟩ := H
                    replace H : (if t203 = true then (if t220 = 0 then (some ((t219.size : Int) == a0)) else (some false)) else (some false)) = some r := H
                    have A68 := Aside0.mk A680
                    clear A680
                    by_cases c69 : t203 = true
                    · subst c69
                      have H1 : (if t220 = 0 then (some ((t219.size : Int) == a0)) else (some false)) = some r := by rw [if_pos rfl] at H; exact H
                      clear H
                      have H := H1
                      clear H1
                      by_cases c70 : t220 = 0
                      · rw [if_pos c70] at H
                        have c70b0 : (t220 == 0) = true := beq_iff_eq.mpr c70
                        have c70b1 : (t220 != 0) = false := bne_eq_false_iff_eq.mpr c70
                        clear c70
                        obtain rfl := Option.some.inj H
                        have hcz71_0 : wr.cell? ⟨gb208, 0, none⟩ = some (.string x209000_3) := (blk_cell BK208.out 0).trans rfl
                        have hcz71_1 : wr.cell? ⟨gb208, 1, none⟩ = some (.string x209001_3) := (blk_cell BK208.out 1).trans rfl
                        have hcz71_2 : wr.cell? ⟨gb208, 2, none⟩ = some (.int .i64 x209002_3) := (blk_cell BK208.out 2).trans rfl
                        have hcz71_3 : wr.cell? ⟨gb208, 3, none⟩ = some (.bool x209003_3) := (blk_cell BK208.out 3).trans rfl
                        have hfz71_0 := blk_frozen BK208.out 0
                        have hfz71_1 := blk_frozen BK208.out 1
                        have hfz71_2 := blk_frozen BK208.out 2
                        have hfz71_3 := blk_frozen BK208.out 3
                        go_wp2_with (first | ((with_reducible refine gate_callee (f := 12) rfl ?_); refine goesL_ (some 82) rfl rfl Try.func12 (by kernel_rfl) rfl #[.agg #[.string x209000_3, .string x209001_3, .int .i64 x209002_3, .bool x209003_3], .int .i64 a0] rfl (by (try simp only [List.map_toArray, List.map_cons, List.map_nil]); first | done | rfl | (simp only [List.length_drop, List.length_take]; rfl)) ?_; (with_reducible refine (tape_Crash.calls x209000_3 x209001_3 x209002_3 x209003_3 a0 t215 t216 t217 t218 _ A67.out).mono ?_); rintro e w72 ⟨rfl, hb⟩; refine ⟨_, rfl, ?_⟩; have n0_ := Aside0.mk (blk_below (g := gb208) (o := .cells #[.string x209000_3, .string x209001_3, .int .i64 x209002_3, .bool x209003_3] 23 (0, 0)) (by (with_reducible repeat (first | refine blk_drewN ?_ _ | refine blk_drew ?_ | refine blk_alloc ?_ _)); exact BK208.out) hb); have n1_ := Aside0.mk (below_step (by repeat (first | (with_reducible first | exact HB.out | apply below_alloc | apply pw_below_drewN | apply below_drew1 | refine below_set ?_ GE208.out) | exact HB.out)) hb); clear BK208; clear HB; have BK208 := n0_; have HB := n1_; clear n0_ n1_; (try clear hb); (try clear hb2); (try clear hk); (try clear hi); have hcz73_0 : w72.cell? ⟨gb208, 0, none⟩ = some (.string x209000_3) := (blk_cell BK208.out 0).trans rfl; have hcz73_1 : w72.cell? ⟨gb208, 1, none⟩ = some (.string x209001_3) := (blk_cell BK208.out 1).trans rfl; have hcz73_2 : w72.cell? ⟨gb208, 2, none⟩ = some (.int .i64 x209002_3) := (blk_cell BK208.out 2).trans rfl; have hcz73_3 : w72.cell? ⟨gb208, 3, none⟩ = some (.bool x209003_3) := (blk_cell BK208.out 3).trans rfl; have hfz73_0 := blk_frozen BK208.out 0; have hfz73_1 := blk_frozen BK208.out 1; have hfz73_2 := blk_frozen BK208.out 2; have hfz73_3 := blk_frozen BK208.out 3) | ((with_reducible refine gate_callee (f := 20) rfl ?_); refine goesL_ (some 85) rfl rfl Try.func20 (by kernel_rfl) rfl #[.agg #[.string t215, .string t216, .int .i64 t217, .bool t218]] rfl (by (try simp only [List.map_toArray, List.map_cons, List.map_nil]); first | done | rfl | (simp only [List.length_drop, List.length_take]; rfl)) ?_; (with_reducible refine (tape_Read.calls t215 t216 t217 t218 t219 t220 _ A68.out).mono ?_); rintro e w74 ⟨rfl, hb⟩; refine ⟨_, rfl, ?_⟩; have n0_ := Aside0.mk (blk_below (g := gb208) (o := .cells #[.string t215, .string t216, .int .i64 t217, .bool t218] 23 (0, 0)) (by (with_reducible repeat (first | refine blk_drewN ?_ _ | refine blk_drew ?_ | refine blk_alloc ?_ _)); refine blk_put (cs := #[.string t215, .string t216, .int .i64 t217, .bool x209003_3]) ?_ 3 _ rfl; (with_reducible repeat (first | refine blk_drewN ?_ _ | refine blk_drew ?_ | refine blk_alloc ?_ _)); refine blk_put (cs := #[.string t215, .string t216, .int .i64 x209002_3, .bool x209003_3]) ?_ 2 _ rfl; (with_reducible repeat (first | refine blk_drewN ?_ _ | refine blk_drew ?_ | refine blk_alloc ?_ _)); refine blk_put (cs := #[.string t215, .string x209001_3, .int .i64 x209002_3, .bool x209003_3]) ?_ 1 _ rfl; (with_reducible repeat (first | refine blk_drewN ?_ _ | refine blk_drew ?_ | refine blk_alloc ?_ _)); refine blk_put (cs := #[.string x209000_3, .string x209001_3, .int .i64 x209002_3, .bool x209003_3]) ?_ 0 _ rfl; (with_reducible repeat (first | refine blk_drewN ?_ _ | refine blk_drew ?_ | refine blk_alloc ?_ _)); exact BK208.out) hb); have n1_ := Aside0.mk (below_step (by repeat (first | (with_reducible first | exact HB.out | apply below_alloc | apply pw_below_drewN | apply below_drew1 | refine below_set ?_ GE208.out) | exact HB.out)) hb); clear BK208; clear HB; have BK208 := n0_; have HB := n1_; clear n0_ n1_; (try clear hb); (try clear hb2); (try clear hk); (try clear hi)))
                        go_ret
                        exact ⟨by first | rfl | (simp [errW_none, errW_some] <;> rfl) | (simp [*, errW_none, errW_some] <;> rfl), by repeat (first | (with_reducible first | exact HB.out | apply below_alloc | apply pw_below_drewN | apply below_drew1 | refine below_set ?_ GE208.out) | exact HB.out)⟩
                      · rw [if_neg c70] at H
                        have c70b0 : (t220 == 0) = false := beq_eq_false_iff_ne.mpr c70
                        have c70b1 : (t220 != 0) = true := bne_iff_ne.mpr c70
                        obtain rfl := Option.some.inj H
                        have hcz75_0 : wr.cell? ⟨gb208, 0, none⟩ = some (.string x209000_3) := (blk_cell BK208.out 0).trans rfl
                        have hcz75_1 : wr.cell? ⟨gb208, 1, none⟩ = some (.string x209001_3) := (blk_cell BK208.out 1).trans rfl
                        have hcz75_2 : wr.cell? ⟨gb208, 2, none⟩ = some (.int .i64 x209002_3) := (blk_cell BK208.out 2).trans rfl
                        have hcz75_3 : wr.cell? ⟨gb208, 3, none⟩ = some (.bool x209003_3) := (blk_cell BK208.out 3).trans rfl
                        have hfz75_0 := blk_frozen BK208.out 0
                        have hfz75_1 := blk_frozen BK208.out 1
                        have hfz75_2 := blk_frozen BK208.out 2
                        have hfz75_3 := blk_frozen BK208.out 3
                        go_wp2_with (first | ((with_reducible refine gate_callee (f := 12) rfl ?_); refine goesL_ (some 82) rfl rfl Try.func12 (by kernel_rfl) rfl #[.agg #[.string x209000_3, .string x209001_3, .int .i64 x209002_3, .bool x209003_3], .int .i64 a0] rfl (by (try simp only [List.map_toArray, List.map_cons, List.map_nil]); first | done | rfl | (simp only [List.length_drop, List.length_take]; rfl)) ?_; (with_reducible refine (tape_Crash.calls x209000_3 x209001_3 x209002_3 x209003_3 a0 t215 t216 t217 t218 _ A67.out).mono ?_); rintro e w76 ⟨rfl, hb⟩; refine ⟨_, rfl, ?_⟩; have n0_ := Aside0.mk (blk_below (g := gb208) (o := .cells #[.string x209000_3, .string x209001_3, .int .i64 x209002_3, .bool x209003_3] 23 (0, 0)) (by (with_reducible repeat (first | refine blk_drewN ?_ _ | refine blk_drew ?_ | refine blk_alloc ?_ _)); exact BK208.out) hb); have n1_ := Aside0.mk (below_step (by repeat (first | (with_reducible first | exact HB.out | apply below_alloc | apply pw_below_drewN | apply below_drew1 | refine below_set ?_ GE208.out) | exact HB.out)) hb); clear BK208; clear HB; have BK208 := n0_; have HB := n1_; clear n0_ n1_; (try clear hb); (try clear hb2); (try clear hk); (try clear hi); have hcz77_0 : w76.cell? ⟨gb208, 0, none⟩ = some (.string x209000_3) := (blk_cell BK208.out 0).trans rfl; have hcz77_1 : w76.cell? ⟨gb208, 1, none⟩ = some (.string x209001_3) := (blk_cell BK208.out 1).trans rfl; have hcz77_2 : w76.cell? ⟨gb208, 2, none⟩ = some (.int .i64 x209002_3) := (blk_cell BK208.out 2).trans rfl; have hcz77_3 : w76.cell? ⟨gb208, 3, none⟩ = some (.bool x209003_3) := (blk_cell BK208.out 3).trans rfl; have hfz77_0 := blk_frozen BK208.out 0; have hfz77_1 := blk_frozen BK208.out 1; have hfz77_2 := blk_frozen BK208.out 2; have hfz77_3 := blk_frozen BK208.out 3) | ((with_reducible refine gate_callee (f := 20) rfl ?_); refine goesL_ (some 85) rfl rfl Try.func20 (by kernel_rfl) rfl #[.agg #[.string t215, .string t216, .int .i64 t217, .bool t218]] rfl (by (try simp only [List.map_toArray, List.map_cons, List.map_nil]); first | done | rfl | (simp only [List.length_drop, List.length_take]; rfl)) ?_; (with_reducible refine (tape_Read.calls t215 t216 t217 t218 t219 t220 _ A68.out).mono ?_); rintro e w78 ⟨rfl, hb⟩; refine ⟨_, rfl, ?_⟩; have n0_ := Aside0.mk (blk_below (g := gb208) (o := .cells #[.string t215, .string t216, .int .i64 t217, .bool t218] 23 (0, 0)) (by (with_reducible repeat (first | refine blk_drewN ?_ _ | refine blk_drew ?_ | refine blk_alloc ?_ _)); refine blk_put (cs := #[.string t215, .string t216, .int .i64 t217, .bool x209003_3]) ?_ 3 _ rfl; (with_reducible repeat (first | refine blk_drewN ?_ _ | refine blk_drew ?_ | refine blk_alloc ?_ _)); refine blk_put (cs := #[.string t215, .string t216, .int .i64 x209002_3, .bool x209003_3]) ?_ 2 _ rfl; (with_reducible repeat (first | refine blk_drewN ?_ _ | refine blk_drew ?_ | refine blk_alloc ?_ _)); refine blk_put (cs := #[.string t215, .string x209001_3, .int .i64 x209002_3, .bool x209003_3]) ?_ 1 _ rfl; (with_reducible repeat (first | refine blk_drewN ?_ _ | refine blk_drew ?_ | refine blk_alloc ?_ _)); refine blk_put (cs := #[.string x209000_3, .string x209001_3, .int .i64 x209002_3, .bool x209003_3]) ?_ 0 _ rfl; (with_reducible repeat (first | refine blk_drewN ?_ _ | refine blk_drew ?_ | refine blk_alloc ?_ _)); exact BK208.out) hb); have n1_ := Aside0.mk (below_step (by repeat (first | (with_reducible first | exact HB.out | apply below_alloc | apply pw_below_drewN | apply below_drew1 | refine below_set ?_ GE208.out) | exact HB.out)) hb); clear BK208; clear HB; have BK208 := n0_; have HB := n1_; clear n0_ n1_; (try clear hb); (try clear hb2); (try clear hk); (try clear hi)))
                        go_ret
                        exact ⟨by first | rfl | (simp [errW_none, errW_some] <;> rfl) | (simp [*, errW_none, errW_some] <;> rfl), by repeat (first | (with_reducible first | exact HB.out | apply below_alloc | apply pw_below_drewN | apply below_drew1 | refine below_set ?_ GE208.out) | exact HB.out)⟩
                    · replace c69 := Bool.eq_false_iff.mpr c69
                      subst c69
                      have H1 : (some false) = some r := by rw [if_neg (show ¬ (false = true) by decide)] at H; exact H
                      clear H
                      have H := H1
                      clear H1
                      obtain rfl := Option.some.inj H
                      have hcz79_0 : wr.cell? ⟨gb208, 0, none⟩ = some (.string x209000_3) := (blk_cell BK208.out 0).trans rfl
                      have hcz79_1 : wr.cell? ⟨gb208, 1, none⟩ = some (.string x209001_3) := (blk_cell BK208.out 1).trans rfl
                      have hcz79_2 : wr.cell? ⟨gb208, 2, none⟩ = some (.int .i64 x209002_3) := (blk_cell BK208.out 2).trans rfl
                      have hcz79_3 : wr.cell? ⟨gb208, 3, none⟩ = some (.bool x209003_3) := (blk_cell BK208.out 3).trans rfl
                      have hfz79_0 := blk_frozen BK208.out 0
                      have hfz79_1 := blk_frozen BK208.out 1
                      have hfz79_2 := blk_frozen BK208.out 2
                      have hfz79_3 := blk_frozen BK208.out 3
                      go_wp2_with (first | ((with_reducible refine gate_callee (f := 12) rfl ?_); refine goesL_ (some 82) rfl rfl Try.func12 (by kernel_rfl) rfl #[.agg #[.string x209000_3, .string x209001_3, .int .i64 x209002_3, .bool x209003_3], .int .i64 a0] rfl (by (try simp only [List.map_toArray, List.map_cons, List.map_nil]); first | done | rfl | (simp only [List.length_drop, List.length_take]; rfl)) ?_; (with_reducible refine (tape_Crash.calls x209000_3 x209001_3 x209002_3 x209003_3 a0 t215 t216 t217 t218 _ A67.out).mono ?_); rintro e w80 ⟨rfl, hb⟩; refine ⟨_, rfl, ?_⟩; have n0_ := Aside0.mk (blk_below (g := gb208) (o := .cells #[.string x209000_3, .string x209001_3, .int .i64 x209002_3, .bool x209003_3] 23 (0, 0)) (by (with_reducible repeat (first | refine blk_drewN ?_ _ | refine blk_drew ?_ | refine blk_alloc ?_ _)); exact BK208.out) hb); have n1_ := Aside0.mk (below_step (by repeat (first | (with_reducible first | exact HB.out | apply below_alloc | apply pw_below_drewN | apply below_drew1 | refine below_set ?_ GE208.out) | exact HB.out)) hb); clear BK208; clear HB; have BK208 := n0_; have HB := n1_; clear n0_ n1_; (try clear hb); (try clear hb2); (try clear hk); (try clear hi); have hcz81_0 : w80.cell? ⟨gb208, 0, none⟩ = some (.string x209000_3) := (blk_cell BK208.out 0).trans rfl; have hcz81_1 : w80.cell? ⟨gb208, 1, none⟩ = some (.string x209001_3) := (blk_cell BK208.out 1).trans rfl; have hcz81_2 : w80.cell? ⟨gb208, 2, none⟩ = some (.int .i64 x209002_3) := (blk_cell BK208.out 2).trans rfl; have hcz81_3 : w80.cell? ⟨gb208, 3, none⟩ = some (.bool x209003_3) := (blk_cell BK208.out 3).trans rfl; have hfz81_0 := blk_frozen BK208.out 0; have hfz81_1 := blk_frozen BK208.out 1; have hfz81_2 := blk_frozen BK208.out 2; have hfz81_3 := blk_frozen BK208.out 3) | ((with_reducible refine gate_callee (f := 20) rfl ?_); refine goesL_ (some 85) rfl rfl Try.func20 (by kernel_rfl) rfl #[.agg #[.string t215, .string t216, .int .i64 t217, .bool t218]] rfl (by (try simp only [List.map_toArray, List.map_cons, List.map_nil]); first | done | rfl | (simp only [List.length_drop, List.length_take]; rfl)) ?_; (with_reducible refine (tape_Read.calls t215 t216 t217 t218 t219 t220 _ A68.out).mono ?_); rintro e w82 ⟨rfl, hb⟩; refine ⟨_, rfl, ?_⟩; have n0_ := Aside0.mk (blk_below (g := gb208) (o := .cells #[.string t215, .string t216, .int .i64 t217, .bool t218] 23 (0, 0)) (by (with_reducible repeat (first | refine blk_drewN ?_ _ | refine blk_drew ?_ | refine blk_alloc ?_ _)); refine blk_put (cs := #[.string t215, .string t216, .int .i64 t217, .bool x209003_3]) ?_ 3 _ rfl; (with_reducible repeat (first | refine blk_drewN ?_ _ | refine blk_drew ?_ | refine blk_alloc ?_ _)); refine blk_put (cs := #[.string t215, .string t216, .int .i64 x209002_3, .bool x209003_3]) ?_ 2 _ rfl; (with_reducible repeat (first | refine blk_drewN ?_ _ | refine blk_drew ?_ | refine blk_alloc ?_ _)); refine blk_put (cs := #[.string t215, .string x209001_3, .int .i64 x209002_3, .bool x209003_3]) ?_ 1 _ rfl; (with_reducible repeat (first | refine blk_drewN ?_ _ | refine blk_drew ?_ | refine blk_alloc ?_ _)); refine blk_put (cs := #[.string x209000_3, .string x209001_3, .int .i64 x209002_3, .bool x209003_3]) ?_ 0 _ rfl; (with_reducible repeat (first | refine blk_drewN ?_ _ | refine blk_drew ?_ | refine blk_alloc ?_ _)); exact BK208.out) hb); have n1_ := Aside0.mk (below_step (by repeat (first | (with_reducible first | exact HB.out | apply below_alloc | apply pw_below_drewN | apply below_drew1 | refine below_set ?_ GE208.out) | exact HB.out)) hb); clear BK208; clear HB; have BK208 := n0_; have HB := n1_; clear n0_ n1_; (try clear hb); (try clear hb2); (try clear hk); (try clear hi)))
                      go_ret
                      exact ⟨by first | rfl | (simp [errW_none, errW_some] <;> rfl) | (simp [*, errW_none, errW_some] <;> rfl), by repeat (first | (with_reducible first | exact HB.out | apply below_alloc | apply pw_below_drewN | apply below_drew1 | refine below_set ?_ GE208.out) | exact HB.out)⟩

end Go.Proofs.Ytofdgkcaimifkaa.Pr
