/- What the program's functions compute, and that they compute it: printed out of the translation by a program of this session's (px.py, over the kit's printer). Conditions: none. -/
import Derived.Test.YtfjhlcbpogihmaaKPostBack1
import Derived.Test.YtfjhlcbpogihmaaGPostBackHandMayW
namespace Go.Proofs.Ytfjhlcbpogihmaa.Pr
open Go.RowKit Go.Proofs.YtfjhlcbpogihmaaW.PrintWords Go.Proofs.YtfjhlcbpogihmaaW.PrintLast Go.Proofs.YtfjhlcbpogihmaaW.PrintMore
attribute [local go_sem] max2_int max_four
set_option linter.unusedVariables false
set_option linter.unusedSimpArgs false
/-! ### post_take: function 73 -/
mutual
def post_take.j0 : Nat → ByteArray → List Int → Bool → Option (Int × Int × Int × Int × Int × Int × Int × Bool × (List (S75)) × ByteArray × Bool)
  | 0, _, _, _ => none
  | k + 1, x0, x4, x34 => if x34 = true then (some (0, 0, 0, 0, 0, 0, 0, false, ([] : List (S75)), (⟨#[]⟩ : ByteArray), false)) else (if 0 < (x4.length : Int) then (if 1 < (x4.length : Int) then (if 2 < (x4.length : Int) then (if 3 < (x4.length : Int) then (if 4 < (x4.length : Int) then (if 5 < (x4.length : Int) then (if 6 < (x4.length : Int) then ((pack_TakeNum.f k x0).bind fun bt553 => (if bt553.2.2 = 0 then (post_take.j1 k bt553.2.1 bt553.1 (decide (bt553.1 > 1)) (wrap64 (rd x4 0)) (rd x4 1) (rd x4 2) (rd x4 3) (rd x4 4) (rd x4 5) (rd x4 6) false (⟨#[]⟩ : ByteArray)) else (post_take.j1 k bt553.2.1 bt553.1 true (wrap64 (rd x4 0)) (rd x4 1) (rd x4 2) (rd x4 3) (rd x4 4) (rd x4 5) (rd x4 6) false (⟨#[]⟩ : ByteArray)))) else (none)) else (none)) else (none)) else (none)) else (none)) else (none)) else (none))
def post_take.j1 : Nat → ByteArray → Int → Bool → Int → Int → Int → Int → Int → Int → Int → Bool → ByteArray → Option (Int × Int × Int × Int × Int × Int × Int × Bool × (List (S75)) × ByteArray × Bool)
  | 0, _, _, _, _, _, _, _, _, _, _, _, _ => none
  | k + 1, x0, x7, x70, x553000, x553001, x553002, x553003, x553004, x553005, x553006, x553007, x553009 => if x70 = true then (some (0, 0, 0, 0, 0, 0, 0, false, ([] : List (S75)), (⟨#[]⟩ : ByteArray), false)) else ((pack_TakeNum.f k x0).bind fun bt556 => (if bt556.2.2 = 0 then (post_take.j2 k bt556.2.1 bt556.1 (decide (bt556.1 > 8)) x553000 x553001 x553002 x553003 x553004 x553005 x553006 (x7 == 1) x553009) else (post_take.j2 k bt556.2.1 bt556.1 true x553000 x553001 x553002 x553003 x553004 x553005 x553006 (x7 == 1) x553009)))
def post_take.j2 : Nat → ByteArray → Int → Bool → Int → Int → Int → Int → Int → Int → Int → Bool → ByteArray → Option (Int × Int × Int × Int × Int × Int × Int × Bool × (List (S75)) × ByteArray × Bool)
  | 0, _, _, _, _, _, _, _, _, _, _, _, _ => none
  | k + 1, x0, x8, x86, x553000, x553001, x553002, x553003, x553004, x553005, x553006, x553007, x553009 => if x86 = true then (some (0, 0, 0, 0, 0, 0, 0, false, ([] : List (S75)), (⟨#[]⟩ : ByteArray), false)) else (post_take.l0 k x0 x8 0 x553000 x553001 x553002 x553003 x553004 x553005 x553006 x553007 ([] : List (S75)) x553009)
def post_take.l0 : Nat → ByteArray → Int → Int → Int → Int → Int → Int → Int → Int → Int → Bool → List (S75) → ByteArray → Option (Int × Int × Int × Int × Int × Int × Int × Bool × (List (S75)) × ByteArray × Bool)
  | 0, _, _, _, _, _, _, _, _, _, _, _, _, _ => none
  | k + 1, x0, x88, x89, x553000, x553001, x553002, x553003, x553004, x553005, x553006, x553007, x553008, x553009 => if x89 < x88 then ((pack_TakeNum.f k x0).bind fun bt563 => ((pack_TakeText.f k bt563.2.1).bind fun bt566 => (if bt563.2.2 = 0 then (if bt566.2.2 = 0 then (if x553008.length < 5864062014805 then (post_take.l0 k bt566.2.1 x88 (IntKind.u64.wrap (x89 + 1)) x553000 x553001 x553002 x553003 x553004 x553005 x553006 x553007 (x553008 ++ [(⟨bt563.1, bt566.1⟩ : S75)]) x553009) else (none)) else (some (0, 0, 0, 0, 0, 0, 0, false, ([] : List (S75)), (⟨#[]⟩ : ByteArray), false))) else (some (0, 0, 0, 0, 0, 0, 0, false, ([] : List (S75)), (⟨#[]⟩ : ByteArray), false))))) else ((pack_TakeText.f k x0).bind fun bt559 => (if bt559.2.2 = 0 then (if bt559.2.1.toList = ([] : List UInt8) then ((post_May.f x553000 x553001 x553002 x553003 x553004 x553005 x553006 x553007 x553008 bt559.1).bind fun t562 => (some (x553000, x553001, x553002, x553003, x553004, x553005, x553006, x553007, x553008, bt559.1, t562))) else (some (x553000, x553001, x553002, x553003, x553004, x553005, x553006, x553007, x553008, bt559.1, false))) else (some (x553000, x553001, x553002, x553003, x553004, x553005, x553006, x553007, x553008, bt559.1, false))))
end
def post_take.f (k : Nat) (a0 : ByteArray) : Option (Int × Int × Int × Int × Int × Int × Int × Bool × (List (S75)) × ByteArray × Bool) := (pack_TakeNums.f k a0 7).bind fun bt539 => (if bt539.2.2 = 0 then (if (bt539.1.length : Int) = 7 then (if 0 < (bt539.1.length : Int) then (post_take.j0 k bt539.2.1 bt539.1 (decide ((rd bt539.1 0) > 7))) else (none)) else (post_take.j0 k bt539.2.1 bt539.1 true)) else (post_take.j0 k bt539.2.1 bt539.1 true))
def post_take.T4 : Bool × List (List Nat × List Nat) := (true, [([], []), ([0], [0]), ([1], [1]), ([2], [2]), ([], []), ([4], [4]), ([5], [5]), ([], []), ([7], [7]), ([8], [8]), ([], []), ([10], [10]), ([11], [11]), ([], []), ([13], [13]), ([14], [14]), ([], []), ([16], [16]), ([17], [17]), ([], []), ([19], [19]), ([20], [20]), ([3, 6, 9, 12, 15, 18, 21], [3, 6, 9, 12, 15, 18, 21]), ([], []), ([23, 22, 0, 1, 2, 3, 4, 5, 6, 7, 8, 9, 10, 11, 12, 13, 14, 15, 16, 17, 18, 19, 20, 21, 22, 23], [22, 23])])
def post_take.B4 : List Nat := [0, 1, 3, 7, 0, 16, 48, 0, 128, 384, 0, 1024, 3072, 0, 8192, 24576, 0, 65536, 196608, 0, 524288, 1572864, 4194303, 0, 16777215]
theorem post_take.tab4 : rtab .any (opsOf Try.f73 4) = post_take.T4 := by kernel_rfl
theorem post_take.bits4 : waitsOk post_take.T4.2 post_take.B4 = true := by kernel_rfl
def post_take.T22 : Bool × List (List Nat × List Nat) := (true, [([], []), ([], []), ([1], [1]), ([2], [2]), ([3], [3]), ([4, 3], [3, 4]), ([3, 5], [3, 5]), ([6, 3], [6]), ([7], [7]), ([8, 7, 7], [7, 8]), ([7, 9], [7, 9]), ([0, 9, 0], [0]), ([10, 11, 0, 1, 2, 3, 4, 5, 6, 7, 8, 9, 10, 11], [10])])
def post_take.B22 : List Nat := [0, 0, 2, 6, 14, 30, 62, 126, 254, 510, 1022, 1023, 4095]
theorem post_take.tab22 : rtab .any (opsOf Try.f73 22) = post_take.T22 := by kernel_rfl
theorem post_take.bits22 : waitsOk post_take.T22.2 post_take.B22 = true := by kernel_rfl
set_option maxHeartbeats 8000000 in
set_option maxRecDepth 100000 in
theorem post_take.calls (k : Nat) (a0 : ByteArray) (r1 : Int) (r2 : Int) (r3 : Int) (r4 : Int) (r5 : Int) (r6 : Int) (r7 : Int) (r8 : Bool) (r9 : List (S75)) (r10 : ByteArray) (r11 : Bool) (w : World) (h : post_take.f k a0 = some (r1, r2, r3, r4, r5, r6, r7, r8, r9, r10, r11)) :
    Calls Try.prog 73 #[.string a0] w fun e w' => ∃ v8_ : Value, e = .returned (.tuple #[.agg #[.int .i64 r1, .int .u64 r2, .int .u64 r3, .int .u64 r4, .int .u64 r5, .int .u64 r6, .int .u64 r7, .bool r8, v8_, .string r10], .bool r11]) ∧ Kd.R k75 75 w' w.heap.size (fun _ => True) v8_ r9 ∧ Below w.heap.size w w' := by
  have hu57 := Try.underlying57
  have hu75 := Try.underlying75
  have HB := Aside0.mk (Below.refl w.heap.size w)
  have H : ((pack_TakeNums.f k a0 7).bind fun bt539 => (if bt539.2.2 = 0 then (if (bt539.1.length : Int) = 7 then (if 0 < (bt539.1.length : Int) then (post_take.j0 k bt539.2.1 bt539.1 (decide ((rd bt539.1 0) > 7))) else (none)) else (post_take.j0 k bt539.2.1 bt539.1 true)) else (post_take.j0 k bt539.2.1 bt539.1 true))) = some (r1, r2, r3, r4, r5, r6, r7, r8, r9, r10, r11) := h
  clear h
  replace H := Option.bind_eq_some_iff.mp H
  obtain ⟨⟨t539, t540, t541⟩, A20, H⟩ := H
  replace H : (if t541 = 0 then (if (t539.length : Int) = 7 then (if 0 < (t539.length : Int) then (post_take.j0 k t540 t539 (decide ((rd t539 0) > 7))) else (none)) else (post_take.j0 k t540 t539 true)) else (post_take.j0 k t540 t539 true)) = some (r1, r2, r3, r4, r5, r6, r7, r8, r9, r10, r11) := H
  have A2 := Aside0.mk A20
  clear A20
  have HC3 := Aside0.mk H
  clear H
  go_enter Try.func73, Try.ntmps73
  go_upto_region 2 with (first | ((with_reducible refine gate_dst (N := 2) rfl ?_); (try (refine gate_guard (by rfl) ?_; dsimp only)); refine box_event ?hg (N := 2) ?hd (cs := #[.int .i64 0, .int .u64 0, .int .u64 0, .int .u64 0, .int .u64 0, .int .u64 0, .int .u64 0, .bool false, .slice none 0 0, .string (⟨#[]⟩ : ByteArray)]) (t := 57) ?hr ?_; (case hd => rfl); (case hg => rfl); (case hr => first | (go_simp; done) | (go_simp; rfl)); intro gb538 hg w4 hbox hb; have n0_ := Aside0.mk (below_step (by repeat (first | (with_reducible first | exact HB.out | apply below_alloc | apply pw_below_drewN | apply below_drew1) | exact HB.out | exact Below.refl _ _)) hb); have n1_ := Aside0.mk (hbox); have n2_ := Aside0.mk ((by rw [hg]; exact (below_size (by repeat (first | (with_reducible first | exact HB.out | apply below_alloc | apply pw_below_drewN | apply below_drew1) | exact HB.out))) : w.heap.size ≤ gb538)); have n3_ := Aside0.mk ((by rw [hg]; exact (below_size (by repeat (first | (with_reducible first | exact HB.out | apply below_alloc | apply pw_below_drewN | apply below_drew1) | exact HB.out))) : w.heap.size ≤ gb538)); clear HB; have HB := n0_; have BK538 := n1_; have GW538 := n2_; have GE538 := n3_; clear n0_ n1_ n2_ n3_; clear hb hbox hg) | ((with_reducible refine gate_callee (f := 83) rfl ?_); refine goesL_ (some 18) rfl rfl Try.func83 (by kernel_rfl) rfl #[.string a0, .int .i64 7] rfl (by (try simp only [List.map_toArray, List.map_cons, List.map_nil]); first | done | rfl | (simp only [List.length_drop, List.length_take]; rfl)) ?_; (with_reducible refine (pack_TakeNums.calls k a0 7 t539 t540 t541 _ A2.out).mono ?_); rintro e w5 ⟨v542, rfl, ho0, hb⟩; refine ⟨_, rfl, ?_⟩; have n0_ := Aside0.mk (Kd.R_lower ho0 (below_size (by repeat (first | (with_reducible first | exact HB.out | apply below_alloc | apply pw_below_drewN | apply below_drew1 | refine below_set ?_ GE538.out) | exact HB.out)))); have n1_ := Aside0.mk (blk_below (g := gb538) (o := .cells #[.int .i64 0, .int .u64 0, .int .u64 0, .int .u64 0, .int .u64 0, .int .u64 0, .int .u64 0, .bool false, .slice none 0 0, .string (⟨#[]⟩ : ByteArray)] 57 (0, 0)) (by (with_reducible repeat (first | refine blk_drewN ?_ _ | refine blk_drew ?_ | refine blk_alloc ?_ _)); exact BK538.out) hb); have n2_ := Aside0.mk (below_step (by repeat (first | (with_reducible first | exact HB.out | apply below_alloc | apply pw_below_drewN | apply below_drew1 | refine below_set ?_ GE538.out) | exact HB.out | exact Below.refl _ _)) hb); clear BK538; clear HB; have HO543 := n0_; have BK538 := n1_; have HB := n2_; clear n0_ n1_ n2_; (try clear hb); (try clear hb2); (try clear hk); (try clear hi); (try clear ho0)))
  (try simp only [Act.put, List.setIfInBounds_toArray, List.set_cons_zero, List.set_cons_succ])
  go_cut [34] (fun v34 wc => ∃ (kq : Nat) (x34_2 : Bool), v34 = .bool x34_2 ∧ Aside0 (post_take.j0 kq t540 t539 x34_2 = some (r1, r2, r3, r4, r5, r6, r7, r8, r9, r10, r11)) ∧ Aside0 (kq ≤ k) ∧ Aside0 (Kd.R (Kd.int .u64) 25 wc w.heap.size (fun _ => True) v542 t539) ∧ Aside0 (wc.heap[gb538]? = some (.cells #[.int .i64 0, .int .u64 0, .int .u64 0, .int .u64 0, .int .u64 0, .int .u64 0, .int .u64 0, .bool false, (.slice none 0 0), .string (⟨#[]⟩ : ByteArray)] 57 (0, 0))) ∧ Aside0 (Below w.heap.size w wc))
  case first =>
    have H := HC3.out
    clear HC3
    by_cases c6 : t541 = 0
    · rw [if_pos c6] at H
      have c6b0 : (t541 == 0) = true := beq_iff_eq.mpr c6
      have c6b1 : (t541 != 0) = false := bne_eq_false_iff_eq.mpr c6
      clear c6
      (first | rw [c6b0] | (simp only [i64_w, i32_w]; rw [c6b0]) | skip)
      by_cases c7 : (t539.length : Int) = 7
      · rw [if_pos c7] at H
        have c7b0 : ((t539.length : Int) == 7) = true := beq_iff_eq.mpr c7
        have c7b1 : ((t539.length : Int) != 7) = false := bne_eq_false_iff_eq.mpr c7
        clear c7
        by_cases c8 : 0 < (t539.length : Int)
        · rw [if_pos c8] at H
          have c8b0 : decide (0 < (t539.length : Int)) = true := decide_eq_true c8
          have c8b1 : decide (0 < t539.length) = true := decide_eq_true (by omega)
          clear c8
          have H' := Aside0.mk H
          clear H
          obtain ⟨Ao9, co9, eo9⟩ := Kd.R_slice HO543.out
          subst eo9
          have p544 : 0 ≤ (0 : Int) := (by omega)
          have q544 : 0 < (t539.length : Int) := of_decide_eq_true (by first | (with_reducible assumption) | assumption)
          obtain ⟨ad544, e544, hx544_0⟩ := Kd.at_int (Kd.R_reads' HO543.out).2.2 0 p544 q544
          cases e544
          have qi544 : (0 < t539.length) = True := eq_true (by omega)
          (try rw [show ((0 : Int)).toNat = 0 from rfl] at hx544_0)
          (try rw [Addr.add_zero'] at hx544_0)
          replace p544 := eq_true p544
          replace q544 := eq_true q544
          go_wp2
          go_meet
          case rel => exact ⟨_, (decide ((rd t539 0) > 7)), (by first | rfl | (simp; done) | (simp [*]; done)), H', ⟨by first | omega | exact Nat.le_refl _⟩, ⟨by (with_reducible repeat (first | apply Kd.R_alloc | apply Kd.R_drewN | apply Kd.R_drew)); exact HO543.out⟩, ⟨by (with_reducible repeat (first | refine blk_drewN ?_ _ | refine blk_drew ?_ | refine blk_alloc ?_ _)); exact BK538.out⟩, ⟨by repeat (first | (with_reducible first | exact HB.out | apply below_alloc | apply pw_below_drewN | apply below_drew1 | refine below_set ?_ GE538.out) | exact HB.out)⟩⟩
        · rw [if_neg c8] at H
          exact absurd H (by simp)
      · rw [if_neg c7] at H
        have c7b0 : ((t539.length : Int) == 7) = false := beq_eq_false_iff_ne.mpr c7
        have c7b1 : ((t539.length : Int) != 7) = true := bne_iff_ne.mpr c7
        have H' := Aside0.mk H
        clear H
        obtain ⟨Ao10, co10, eo10⟩ := Kd.R_slice HO543.out
        subst eo10
        go_wp2
        go_meet
        case rel => exact ⟨_, (true), (by first | rfl | (simp; done) | (simp [*]; done)), H', ⟨by first | omega | exact Nat.le_refl _⟩, ⟨by (with_reducible repeat (first | apply Kd.R_alloc | apply Kd.R_drewN | apply Kd.R_drew)); exact HO543.out⟩, ⟨by (with_reducible repeat (first | refine blk_drewN ?_ _ | refine blk_drew ?_ | refine blk_alloc ?_ _)); exact BK538.out⟩, ⟨by repeat (first | (with_reducible first | exact HB.out | apply below_alloc | apply pw_below_drewN | apply below_drew1 | refine below_set ?_ GE538.out) | exact HB.out)⟩⟩
    · rw [if_neg c6] at H
      have c6b0 : (t541 == 0) = false := beq_eq_false_iff_ne.mpr c6
      have c6b1 : (t541 != 0) = true := bne_iff_ne.mpr c6
      (first | rw [c6b0] | (simp only [i64_w, i32_w]; rw [c6b0]) | skip)
      have H' := Aside0.mk H
      clear H
      go_wp2
      go_meet
      case rel => exact ⟨_, (true), (by first | rfl | (simp; done) | (simp [*]; done)), H', ⟨by first | omega | exact Nat.le_refl _⟩, ⟨by (with_reducible repeat (first | apply Kd.R_alloc | apply Kd.R_drewN | apply Kd.R_drew)); exact HO543.out⟩, ⟨by (with_reducible repeat (first | refine blk_drewN ?_ _ | refine blk_drew ?_ | refine blk_alloc ?_ _)); exact BK538.out⟩, ⟨by repeat (first | (with_reducible first | exact HB.out | apply below_alloc | apply pw_below_drewN | apply below_drew1 | refine below_set ?_ GE538.out) | exact HB.out)⟩⟩
  case rest =>
    clear HC3
    try clear p2
    try clear p5
    try clear q5
    try clear hx5
    try clear qi5
    try clear c6
    try clear c6b0
    try clear c6b1
    try clear c7
    try clear c7b0
    try clear c7b1
    try clear c8
    try clear c8b0
    try clear c8b1
    try clear hx544_0
    try clear p544
    try clear q544
    obtain ⟨kq, x34_2, rfl, HA, HJ2, HO_4, BK538, HB⟩ := hcut
    cases kq with
    | zero => exact absurd HA.out (by simp [post_take.j0])
    | succ kj2 =>
      have H := HA.out
      clear HA
      simp only [post_take.j0] at H
      by_cases c11 : x34_2 = true
      · subst c11
        have H1 : (some (0, 0, 0, 0, 0, 0, 0, false, ([] : List (S75)), (⟨#[]⟩ : ByteArray), false)) = some (r1, r2, r3, r4, r5, r6, r7, r8, r9, r10, r11) := by rw [if_pos rfl] at H; exact H
        clear H
        have H := H1
        clear H1
        simp only [Option.some.injEq, Prod.mk.injEq] at H
        obtain ⟨rfl, rfl, rfl, rfl, rfl, rfl, rfl, rfl, rfl, rfl, rfl⟩ := H
        have hcz12_0 : wc.cell? ⟨gb538, 0, none⟩ = some (.int .i64 0) := (blk_cell BK538.out 0).trans rfl
        have hcz12_1 : wc.cell? ⟨gb538, 1, none⟩ = some (.int .u64 0) := (blk_cell BK538.out 1).trans rfl
        have hcz12_2 : wc.cell? ⟨gb538, 2, none⟩ = some (.int .u64 0) := (blk_cell BK538.out 2).trans rfl
        have hcz12_3 : wc.cell? ⟨gb538, 3, none⟩ = some (.int .u64 0) := (blk_cell BK538.out 3).trans rfl
        have hcz12_4 : wc.cell? ⟨gb538, 4, none⟩ = some (.int .u64 0) := (blk_cell BK538.out 4).trans rfl
        have hcz12_5 : wc.cell? ⟨gb538, 5, none⟩ = some (.int .u64 0) := (blk_cell BK538.out 5).trans rfl
        have hcz12_6 : wc.cell? ⟨gb538, 6, none⟩ = some (.int .u64 0) := (blk_cell BK538.out 6).trans rfl
        have hcz12_7 : wc.cell? ⟨gb538, 7, none⟩ = some (.bool false) := (blk_cell BK538.out 7).trans rfl
        have hcz12_8 : wc.cell? ⟨gb538, 8, none⟩ = some (.slice none 0 0) := (blk_cell BK538.out 8).trans rfl
        have hcz12_9 : wc.cell? ⟨gb538, 9, none⟩ = some (.string (⟨#[]⟩ : ByteArray)) := (blk_cell BK538.out 9).trans rfl
        have hfz12_0 := blk_frozen BK538.out 0
        have hfz12_1 := blk_frozen BK538.out 1
        have hfz12_2 := blk_frozen BK538.out 2
        have hfz12_3 := blk_frozen BK538.out 3
        have hfz12_4 := blk_frozen BK538.out 4
        have hfz12_5 := blk_frozen BK538.out 5
        have hfz12_6 := blk_frozen BK538.out 6
        have hfz12_7 := blk_frozen BK538.out 7
        have hfz12_8 := blk_frozen BK538.out 8
        have hfz12_9 := blk_frozen BK538.out 9
        go_wp2
        refine bodyPost_ret (results_ct rfl _ _ gb538 57 #[.int .i64 0, .int .u64 0, .int .u64 0, .int .u64 0, .int .u64 0, .int .u64 0, .int .u64 0, .bool false, .slice none 0 0, .string (⟨#[]⟩ : ByteArray)] (0, 0) _ rfl (by (with_reducible repeat (first | refine blk_drewN ?_ _ | refine blk_drew ?_ | refine blk_alloc ?_ _)); refine blk_put (cs := #[.int .i64 0, .int .u64 0, .int .u64 0, .int .u64 0, .int .u64 0, .int .u64 0, .int .u64 0, .bool false, .slice none 0 0, .string (⟨#[]⟩ : ByteArray)]) ?_ 9 _ rfl; (with_reducible repeat (first | refine blk_drewN ?_ _ | refine blk_drew ?_ | refine blk_alloc ?_ _)); refine blk_put (cs := #[.int .i64 0, .int .u64 0, .int .u64 0, .int .u64 0, .int .u64 0, .int .u64 0, .int .u64 0, .bool false, .slice none 0 0, .string (⟨#[]⟩ : ByteArray)]) ?_ 8 _ rfl; (with_reducible repeat (first | refine blk_drewN ?_ _ | refine blk_drew ?_ | refine blk_alloc ?_ _)); refine blk_put (cs := #[.int .i64 0, .int .u64 0, .int .u64 0, .int .u64 0, .int .u64 0, .int .u64 0, .int .u64 0, .bool false, .slice none 0 0, .string (⟨#[]⟩ : ByteArray)]) ?_ 7 _ rfl; (with_reducible repeat (first | refine blk_drewN ?_ _ | refine blk_drew ?_ | refine blk_alloc ?_ _)); refine blk_put (cs := #[.int .i64 0, .int .u64 0, .int .u64 0, .int .u64 0, .int .u64 0, .int .u64 0, .int .u64 0, .bool false, .slice none 0 0, .string (⟨#[]⟩ : ByteArray)]) ?_ 6 _ rfl; (with_reducible repeat (first | refine blk_drewN ?_ _ | refine blk_drew ?_ | refine blk_alloc ?_ _)); refine blk_put (cs := #[.int .i64 0, .int .u64 0, .int .u64 0, .int .u64 0, .int .u64 0, .int .u64 0, .int .u64 0, .bool false, .slice none 0 0, .string (⟨#[]⟩ : ByteArray)]) ?_ 5 _ rfl; (with_reducible repeat (first | refine blk_drewN ?_ _ | refine blk_drew ?_ | refine blk_alloc ?_ _)); refine blk_put (cs := #[.int .i64 0, .int .u64 0, .int .u64 0, .int .u64 0, .int .u64 0, .int .u64 0, .int .u64 0, .bool false, .slice none 0 0, .string (⟨#[]⟩ : ByteArray)]) ?_ 4 _ rfl; (with_reducible repeat (first | refine blk_drewN ?_ _ | refine blk_drew ?_ | refine blk_alloc ?_ _)); refine blk_put (cs := #[.int .i64 0, .int .u64 0, .int .u64 0, .int .u64 0, .int .u64 0, .int .u64 0, .int .u64 0, .bool false, .slice none 0 0, .string (⟨#[]⟩ : ByteArray)]) ?_ 3 _ rfl; (with_reducible repeat (first | refine blk_drewN ?_ _ | refine blk_drew ?_ | refine blk_alloc ?_ _)); refine blk_put (cs := #[.int .i64 0, .int .u64 0, .int .u64 0, .int .u64 0, .int .u64 0, .int .u64 0, .int .u64 0, .bool false, .slice none 0 0, .string (⟨#[]⟩ : ByteArray)]) ?_ 2 _ rfl; (with_reducible repeat (first | refine blk_drewN ?_ _ | refine blk_drew ?_ | refine blk_alloc ?_ _)); refine blk_put (cs := #[.int .i64 0, .int .u64 0, .int .u64 0, .int .u64 0, .int .u64 0, .int .u64 0, .int .u64 0, .bool false, .slice none 0 0, .string (⟨#[]⟩ : ByteArray)]) ?_ 1 _ rfl; (with_reducible repeat (first | refine blk_drewN ?_ _ | refine blk_drew ?_ | refine blk_alloc ?_ _)); refine blk_put (cs := #[.int .i64 0, .int .u64 0, .int .u64 0, .int .u64 0, .int .u64 0, .int .u64 0, .int .u64 0, .bool false, .slice none 0 0, .string (⟨#[]⟩ : ByteArray)]) ?_ 0 _ rfl; (with_reducible repeat (first | refine blk_drewN ?_ _ | refine blk_drew ?_ | refine blk_alloc ?_ _)); exact BK538.out) Try.underlying57 rfl (by kernel_rfl)) rfl ?_
        exact ⟨_, by first | rfl | (simp [errW_none, errW_some] <;> rfl) | (simp [*, errW_none, errW_some] <;> rfl), by first | exact Kd.R_nil _ _ _ _ _ | exact Kd.N_nil _ _ _ _ _ | exact Kd.V_nil _ _ _ _ _ | exact Kd.Q_nil _ _ _ _ _ | exact Kd.S_nil _ _ _ _ _, by repeat (first | (with_reducible first | exact HB.out | apply below_alloc | apply pw_below_drewN | apply below_drew1 | refine below_set ?_ GE538.out) | exact HB.out)⟩
      · replace c11 := Bool.eq_false_iff.mpr c11
        subst c11
        have H1 : (if 0 < (t539.length : Int) then (if 1 < (t539.length : Int) then (if 2 < (t539.length : Int) then (if 3 < (t539.length : Int) then (if 4 < (t539.length : Int) then (if 5 < (t539.length : Int) then (if 6 < (t539.length : Int) then ((pack_TakeNum.f kj2 t540).bind fun bt553 => (if bt553.2.2 = 0 then (post_take.j1 kj2 bt553.2.1 bt553.1 (decide (bt553.1 > 1)) (wrap64 (rd t539 0)) (rd t539 1) (rd t539 2) (rd t539 3) (rd t539 4) (rd t539 5) (rd t539 6) false (⟨#[]⟩ : ByteArray)) else (post_take.j1 kj2 bt553.2.1 bt553.1 true (wrap64 (rd t539 0)) (rd t539 1) (rd t539 2) (rd t539 3) (rd t539 4) (rd t539 5) (rd t539 6) false (⟨#[]⟩ : ByteArray)))) else (none)) else (none)) else (none)) else (none)) else (none)) else (none)) else (none)) = some (r1, r2, r3, r4, r5, r6, r7, r8, r9, r10, r11) := by rw [if_neg (show ¬ (false = true) by decide)] at H; exact H
        clear H
        have H := H1
        clear H1
        by_cases c13 : 0 < (t539.length : Int)
        · rw [if_pos c13] at H
          have c13b0 : decide (0 < (t539.length : Int)) = true := decide_eq_true c13
          have c13b1 : decide (0 < t539.length) = true := decide_eq_true (by omega)
          clear c13
          by_cases c14 : 1 < (t539.length : Int)
          · rw [if_pos c14] at H
            have c14b0 : decide (1 < (t539.length : Int)) = true := decide_eq_true c14
            have c14b1 : decide (1 < t539.length) = true := decide_eq_true (by omega)
            clear c14
            by_cases c15 : 2 < (t539.length : Int)
            · rw [if_pos c15] at H
              have c15b0 : decide (2 < (t539.length : Int)) = true := decide_eq_true c15
              have c15b1 : decide (2 < t539.length) = true := decide_eq_true (by omega)
              clear c15
              by_cases c16 : 3 < (t539.length : Int)
              · rw [if_pos c16] at H
                have c16b0 : decide (3 < (t539.length : Int)) = true := decide_eq_true c16
                have c16b1 : decide (3 < t539.length) = true := decide_eq_true (by omega)
                clear c16
                by_cases c17 : 4 < (t539.length : Int)
                · rw [if_pos c17] at H
                  have c17b0 : decide (4 < (t539.length : Int)) = true := decide_eq_true c17
                  have c17b1 : decide (4 < t539.length) = true := decide_eq_true (by omega)
                  clear c17
                  by_cases c18 : 5 < (t539.length : Int)
                  · rw [if_pos c18] at H
                    have c18b0 : decide (5 < (t539.length : Int)) = true := decide_eq_true c18
                    have c18b1 : decide (5 < t539.length) = true := decide_eq_true (by omega)
                    clear c18
                    by_cases c19 : 6 < (t539.length : Int)
                    · rw [if_pos c19] at H
                      have c19b0 : decide (6 < (t539.length : Int)) = true := decide_eq_true c19
                      have c19b1 : decide (6 < t539.length) = true := decide_eq_true (by omega)
                      clear c19
                      replace H := Option.bind_eq_some_iff.mp H
                      obtain ⟨⟨t553, t554, t555⟩, A200, H⟩ := H
                      replace H : (if t555 = 0 then (post_take.j1 kj2 t554 t553 (decide (t553 > 1)) (wrap64 (rd t539 0)) (rd t539 1) (rd t539 2) (rd t539 3) (rd t539 4) (rd t539 5) (rd t539 6) false (⟨#[]⟩ : ByteArray)) else (post_take.j1 kj2 t554 t553 true (wrap64 (rd t539 0)) (rd t539 1) (rd t539 2) (rd t539 3) (rd t539 4) (rd t539 5) (rd t539 6) false (⟨#[]⟩ : ByteArray))) = some (r1, r2, r3, r4, r5, r6, r7, r8, r9, r10, r11) := H
                      have A20 := Aside0.mk A200
                      clear A200
                      have HC21 := Aside0.mk H
                      clear H
                      try go_wp2
                      have n0_ := Aside0.mk (Kd.R_drew HO_4.out)
                      have n1_ := Aside0.mk (blk_drew BK538.out)
                      have n2_ := Aside0.mk (below_drew1 HB.out)
                      clear HO_4
                      clear BK538
                      clear HB
                      have HO_4 := n0_
                      have BK538 := n1_
                      have HB := n2_
                      clear n0_ n1_ n2_
                      obtain ⟨Ao23, co23, eo23⟩ := Kd.R_slice HO_4.out
                      (first | subst eo23 | (injection eo23 with f1_ f2_ f3_; have f4_ := f1_.symm; have f5_ := f3_.symm; clear f1_ f2_ f3_; subst f4_; subst f5_))
                      have p545 : 0 ≤ (0 : Int) := (by omega)
                      have q545 : 0 < (t539.length : Int) := of_decide_eq_true (by first | (with_reducible assumption) | assumption)
                      obtain ⟨ad545, e545, hx545_0⟩ := Kd.at_int (Kd.R_reads' HO_4.out).2.2 0 p545 q545
                      cases e545
                      have qi545 : (0 < t539.length) = True := eq_true (by omega)
                      (try rw [show ((0 : Int)).toNat = 0 from rfl] at hx545_0)
                      (try rw [Addr.add_zero'] at hx545_0)
                      replace p545 := eq_true p545
                      replace q545 := eq_true q545
                      have p546 : 0 ≤ (1 : Int) := (by omega)
                      have q546 : 1 < (t539.length : Int) := of_decide_eq_true (by first | (with_reducible assumption) | assumption)
                      obtain ⟨ad546, e546, hx546_0⟩ := Kd.at_int (Kd.R_reads' HO_4.out).2.2 1 p546 q546
                      obtain rfl : ad545 = ad546 := (by injection e546)
                      (try simp only [show (1 : Int).toNat = 1 from rfl, Nat.reduceMul, Nat.reduceEqDiff, Go.Addr.add, ↓reduceIte] at hx546_0)
                      have qi546 : (1 < t539.length) = True := eq_true (by omega)
                      (try rw [show ((1 : Int)).toNat = 1 from rfl] at hx546_0)
                      replace p546 := eq_true p546
                      replace q546 := eq_true q546
                      have p547 : 0 ≤ (2 : Int) := (by omega)
                      have q547 : 2 < (t539.length : Int) := of_decide_eq_true (by first | (with_reducible assumption) | assumption)
                      obtain ⟨ad547, e547, hx547_0⟩ := Kd.at_int (Kd.R_reads' HO_4.out).2.2 2 p547 q547
                      obtain rfl : ad545 = ad547 := (by injection e547)
                      (try simp only [show (2 : Int).toNat = 2 from rfl, Nat.reduceMul, Nat.reduceEqDiff, Go.Addr.add, ↓reduceIte] at hx547_0)
                      have qi547 : (2 < t539.length) = True := eq_true (by omega)
                      (try rw [show ((2 : Int)).toNat = 2 from rfl] at hx547_0)
                      replace p547 := eq_true p547
                      replace q547 := eq_true q547
                      have p548 : 0 ≤ (3 : Int) := (by omega)
                      have q548 : 3 < (t539.length : Int) := of_decide_eq_true (by first | (with_reducible assumption) | assumption)
                      obtain ⟨ad548, e548, hx548_0⟩ := Kd.at_int (Kd.R_reads' HO_4.out).2.2 3 p548 q548
                      obtain rfl : ad545 = ad548 := (by injection e548)
                      (try simp only [show (3 : Int).toNat = 3 from rfl, Nat.reduceMul, Nat.reduceEqDiff, Go.Addr.add, ↓reduceIte] at hx548_0)
                      have qi548 : (3 < t539.length) = True := eq_true (by omega)
                      (try rw [show ((3 : Int)).toNat = 3 from rfl] at hx548_0)
                      replace p548 := eq_true p548
                      replace q548 := eq_true q548
                      have p549 : 0 ≤ (4 : Int) := (by omega)
                      have q549 : 4 < (t539.length : Int) := of_decide_eq_true (by first | (with_reducible assumption) | assumption)
                      obtain ⟨ad549, e549, hx549_0⟩ := Kd.at_int (Kd.R_reads' HO_4.out).2.2 4 p549 q549
                      obtain rfl : ad545 = ad549 := (by injection e549)
                      (try simp only [show (4 : Int).toNat = 4 from rfl, Nat.reduceMul, Nat.reduceEqDiff, Go.Addr.add, ↓reduceIte] at hx549_0)
                      have qi549 : (4 < t539.length) = True := eq_true (by omega)
                      (try rw [show ((4 : Int)).toNat = 4 from rfl] at hx549_0)
                      replace p549 := eq_true p549
                      replace q549 := eq_true q549
                      have p550 : 0 ≤ (5 : Int) := (by omega)
                      have q550 : 5 < (t539.length : Int) := of_decide_eq_true (by first | (with_reducible assumption) | assumption)
                      obtain ⟨ad550, e550, hx550_0⟩ := Kd.at_int (Kd.R_reads' HO_4.out).2.2 5 p550 q550
                      obtain rfl : ad545 = ad550 := (by injection e550)
                      (try simp only [show (5 : Int).toNat = 5 from rfl, Nat.reduceMul, Nat.reduceEqDiff, Go.Addr.add, ↓reduceIte] at hx550_0)
                      have qi550 : (5 < t539.length) = True := eq_true (by omega)
                      (try rw [show ((5 : Int)).toNat = 5 from rfl] at hx550_0)
                      replace p550 := eq_true p550
                      replace q550 := eq_true q550
                      have p551 : 0 ≤ (6 : Int) := (by omega)
                      have q551 : 6 < (t539.length : Int) := of_decide_eq_true (by first | (with_reducible assumption) | assumption)
                      obtain ⟨ad551, e551, hx551_0⟩ := Kd.at_int (Kd.R_reads' HO_4.out).2.2 6 p551 q551
                      obtain rfl : ad545 = ad551 := (by injection e551)
                      (try simp only [show (6 : Int).toNat = 6 from rfl, Nat.reduceMul, Nat.reduceEqDiff, Go.Addr.add, ↓reduceIte] at hx551_0)
                      have qi551 : (6 < t539.length) = True := eq_true (by omega)
                      (try rw [show ((6 : Int)).toNat = 6 from rfl] at hx551_0)
                      replace p551 := eq_true p551
                      replace q551 := eq_true q551
                      refine start_ (n := 25) (S := fun w' => w'.cell? ad545 = some (.int .u64 (rd t539 0)) ∧ w'.cell? ⟨ad545.block, ad545.off + 1, none⟩ = some (.int .u64 (rd t539 1)) ∧ w'.cell? ⟨ad545.block, ad545.off + 2, none⟩ = some (.int .u64 (rd t539 2)) ∧ w'.cell? ⟨ad545.block, ad545.off + 3, none⟩ = some (.int .u64 (rd t539 3)) ∧ w'.cell? ⟨ad545.block, ad545.off + 4, none⟩ = some (.int .u64 (rd t539 4)) ∧ w'.cell? ⟨ad545.block, ad545.off + 5, none⟩ = some (.int .u64 (rd t539 5)) ∧ w'.cell? ⟨ad545.block, ad545.off + 6, none⟩ = some (.int .u64 (rd t539 6))) (ds := []) #[false, false, false, false, false, false, false, false, false, false, false, false, false, false, false, false, false, false, false, false, false, false, false, false, false] (by kernel_rfl) rfl rfl ⟨hx545_0, hx546_0, hx547_0, hx548_0, hx549_0, hx550_0, hx551_0⟩ (fun hHeld => ?_); refine with_tabW post_take.tab4 post_take.bits4 (fun HT_ HW_ => ?_)
                      generalize wc.drew = w22 at HO_4 BK538 HB hx545_0 hx546_0 hx547_0 hx548_0 hx549_0 hx550_0 hx551_0 hHeld ⊢
                      refine pure_ (i := 0) (N := some 36) (v := ?_) (a' := ?_) #[true, false, false, false, false, false, false, false, false, false, false, false, false, false, false, false, false, false, false, false, false, false, false, false, false] rfl rfl (any_of HT_.out (by kernel_rfl)) (fun _ _ _ h => h) (Or.inl ⟨by rfl, ?_⟩) ?_ ?_
                      rotate_left
                      · intro w'
                        go_simp
                        with_reducible rfl
                      rotate_left
                      · simp only [Act.put, List.setIfInBounds_toArray, List.set_cons_zero, List.set_cons_succ, i64_w, i32_w]
                        rfl
                      refine pure_ (i := 1) (N := some 37) (v := ?_) (a' := ?_) #[true, true, false, false, false, false, false, false, false, false, false, false, false, false, false, false, false, false, false, false, false, false, false, false, false] rfl rfl (any_of HT_.out (by kernel_rfl)) (fun _ _ _ h => h) (Or.inl ⟨by rfl, ?_⟩) ?_ ?_
                      rotate_left
                      · intro w'
                        go_simp
                        with_reducible rfl
                      rotate_left
                      · simp only [Act.put, List.setIfInBounds_toArray, List.set_cons_zero, List.set_cons_succ, i64_w, i32_w]
                        rfl
                      refine pure_ (i := 4) (N := some 40) (v := ?_) (a' := ?_) #[true, true, false, false, true, false, false, false, false, false, false, false, false, false, false, false, false, false, false, false, false, false, false, false, false] rfl rfl (any_of HT_.out (by kernel_rfl)) (fun _ _ _ h => h) (Or.inl ⟨by rfl, ?_⟩) ?_ ?_
                      rotate_left
                      · intro w'
                        go_simp
                        with_reducible rfl
                      rotate_left
                      · simp only [Act.put, List.setIfInBounds_toArray, List.set_cons_zero, List.set_cons_succ, i64_w, i32_w]
                        rfl
                      refine pure_ (i := 5) (N := some 41) (v := ?_) (a' := ?_) #[true, true, false, false, true, true, false, false, false, false, false, false, false, false, false, false, false, false, false, false, false, false, false, false, false] rfl rfl (any_of HT_.out (by kernel_rfl)) (fun _ _ _ h => h) (Or.inl ⟨by rfl, ?_⟩) ?_ ?_
                      rotate_left
                      · intro w'
                        go_simp
                        with_reducible rfl
                      rotate_left
                      · simp only [Act.put, List.setIfInBounds_toArray, List.set_cons_zero, List.set_cons_succ, i64_w, i32_w]
                        rfl
                      refine pure_ (i := 7) (N := some 43) (v := ?_) (a' := ?_) #[true, true, false, false, true, true, false, true, false, false, false, false, false, false, false, false, false, false, false, false, false, false, false, false, false] rfl rfl (any_of HT_.out (by kernel_rfl)) (fun _ _ _ h => h) (Or.inl ⟨by rfl, ?_⟩) ?_ ?_
                      rotate_left
                      · intro w'
                        go_simp
                        with_reducible rfl
                      rotate_left
                      · simp only [Act.put, List.setIfInBounds_toArray, List.set_cons_zero, List.set_cons_succ, i64_w, i32_w]
                        rfl
                      refine pure_ (i := 8) (N := some 44) (v := ?_) (a' := ?_) #[true, true, false, false, true, true, false, true, true, false, false, false, false, false, false, false, false, false, false, false, false, false, false, false, false] rfl rfl (any_of HT_.out (by kernel_rfl)) (fun _ _ _ h => h) (Or.inl ⟨by rfl, ?_⟩) ?_ ?_
                      rotate_left
                      · intro w'
                        go_simp
                        with_reducible rfl
                      rotate_left
                      · simp only [Act.put, List.setIfInBounds_toArray, List.set_cons_zero, List.set_cons_succ, i64_w, i32_w]
                        rfl
                      refine pure_ (i := 10) (N := some 46) (v := ?_) (a' := ?_) #[true, true, false, false, true, true, false, true, true, false, true, false, false, false, false, false, false, false, false, false, false, false, false, false, false] rfl rfl (any_of HT_.out (by kernel_rfl)) (fun _ _ _ h => h) (Or.inl ⟨by rfl, ?_⟩) ?_ ?_
                      rotate_left
                      · intro w'
                        go_simp
                        with_reducible rfl
                      rotate_left
                      · simp only [Act.put, List.setIfInBounds_toArray, List.set_cons_zero, List.set_cons_succ, i64_w, i32_w]
                        rfl
                      refine pure_ (i := 11) (N := some 47) (v := ?_) (a' := ?_) #[true, true, false, false, true, true, false, true, true, false, true, true, false, false, false, false, false, false, false, false, false, false, false, false, false] rfl rfl (any_of HT_.out (by kernel_rfl)) (fun _ _ _ h => h) (Or.inl ⟨by rfl, ?_⟩) ?_ ?_
                      rotate_left
                      · intro w'
                        go_simp
                        with_reducible rfl
                      rotate_left
                      · simp only [Act.put, List.setIfInBounds_toArray, List.set_cons_zero, List.set_cons_succ, i64_w, i32_w]
                        rfl
                      refine pure_ (i := 13) (N := some 49) (v := ?_) (a' := ?_) #[true, true, false, false, true, true, false, true, true, false, true, true, false, true, false, false, false, false, false, false, false, false, false, false, false] rfl rfl (any_of HT_.out (by kernel_rfl)) (fun _ _ _ h => h) (Or.inl ⟨by rfl, ?_⟩) ?_ ?_
                      rotate_left
                      · intro w'
                        go_simp
                        with_reducible rfl
                      rotate_left
                      · simp only [Act.put, List.setIfInBounds_toArray, List.set_cons_zero, List.set_cons_succ, i64_w, i32_w]
                        rfl
                      refine pure_ (i := 14) (N := some 50) (v := ?_) (a' := ?_) #[true, true, false, false, true, true, false, true, true, false, true, true, false, true, true, false, false, false, false, false, false, false, false, false, false] rfl rfl (any_of HT_.out (by kernel_rfl)) (fun _ _ _ h => h) (Or.inl ⟨by rfl, ?_⟩) ?_ ?_
                      rotate_left
                      · intro w'
                        go_simp
                        with_reducible rfl
                      rotate_left
                      · simp only [Act.put, List.setIfInBounds_toArray, List.set_cons_zero, List.set_cons_succ, i64_w, i32_w]
                        rfl
                      refine pure_ (i := 16) (N := some 52) (v := ?_) (a' := ?_) #[true, true, false, false, true, true, false, true, true, false, true, true, false, true, true, false, true, false, false, false, false, false, false, false, false] rfl rfl (any_of HT_.out (by kernel_rfl)) (fun _ _ _ h => h) (Or.inl ⟨by rfl, ?_⟩) ?_ ?_
                      rotate_left
                      · intro w'
                        go_simp
                        with_reducible rfl
                      rotate_left
                      · simp only [Act.put, List.setIfInBounds_toArray, List.set_cons_zero, List.set_cons_succ, i64_w, i32_w]
                        rfl
                      refine pure_ (i := 17) (N := some 53) (v := ?_) (a' := ?_) #[true, true, false, false, true, true, false, true, true, false, true, true, false, true, true, false, true, true, false, false, false, false, false, false, false] rfl rfl (any_of HT_.out (by kernel_rfl)) (fun _ _ _ h => h) (Or.inl ⟨by rfl, ?_⟩) ?_ ?_
                      rotate_left
                      · intro w'
                        go_simp
                        with_reducible rfl
                      rotate_left
                      · simp only [Act.put, List.setIfInBounds_toArray, List.set_cons_zero, List.set_cons_succ, i64_w, i32_w]
                        rfl
                      refine pure_ (i := 19) (N := some 55) (v := ?_) (a' := ?_) #[true, true, false, false, true, true, false, true, true, false, true, true, false, true, true, false, true, true, false, true, false, false, false, false, false] rfl rfl (any_of HT_.out (by kernel_rfl)) (fun _ _ _ h => h) (Or.inl ⟨by rfl, ?_⟩) ?_ ?_
                      rotate_left
                      · intro w'
                        go_simp
                        with_reducible rfl
                      rotate_left
                      · simp only [Act.put, List.setIfInBounds_toArray, List.set_cons_zero, List.set_cons_succ, i64_w, i32_w]
                        rfl
                      refine pure_ (i := 20) (N := some 56) (v := ?_) (a' := ?_) #[true, true, false, false, true, true, false, true, true, false, true, true, false, true, true, false, true, true, false, true, true, false, false, false, false] rfl rfl (any_of HT_.out (by kernel_rfl)) (fun _ _ _ h => h) (Or.inl ⟨by rfl, ?_⟩) ?_ ?_
                      rotate_left
                      · intro w'
                        go_simp
                        with_reducible rfl
                      rotate_left
                      · simp only [Act.put, List.setIfInBounds_toArray, List.set_cons_zero, List.set_cons_succ, i64_w, i32_w]
                        rfl
                      refine take_ (i := 2) (N := some 38) (v := ?_) (a' := ?_) #[true, true, true, false, true, true, false, true, true, false, true, true, false, true, true, false, true, true, false, true, true, false, false, false, false] rfl rfl (take_ofW HT_.out HW_.out (by kernel_rfl)) (fun _ _ _ h => h) (Or.inl ⟨by rfl, ?_⟩) hHeld ?_ ?_
                      rotate_left
                      · rintro w' ⟨s0, s1, s2, s3, s4, s5, s6⟩
                        go_simp
                        with_reducible rfl
                      rotate_left
                      · simp only [Act.put, List.setIfInBounds_toArray, List.set_cons_zero, List.set_cons_succ, i64_w, i32_w]
                        rfl
                      refine pure_ (i := 3) (N := some 39) (v := ?_) (a' := ?_) #[true, true, true, true, true, true, false, true, true, false, true, true, false, true, true, false, true, true, false, true, true, false, false, false, false] rfl rfl (any_of HT_.out (by kernel_rfl)) (fun _ _ _ h => h) (Or.inl ⟨by rfl, ?_⟩) ?_ ?_
                      rotate_left
                      · intro w'
                        go_simp
                        with_reducible rfl
                      rotate_left
                      · simp only [Act.put, List.setIfInBounds_toArray, List.set_cons_zero, List.set_cons_succ, i64_w, i32_w]
                        rfl
                      refine take_ (i := 6) (N := some 42) (v := ?_) (a' := ?_) #[true, true, true, true, true, true, true, true, true, false, true, true, false, true, true, false, true, true, false, true, true, false, false, false, false] rfl rfl (take_ofW HT_.out HW_.out (by kernel_rfl)) (fun _ _ _ h => h) (Or.inl ⟨by rfl, ?_⟩) hHeld ?_ ?_
                      rotate_left
                      · rintro w' ⟨s0, s1, s2, s3, s4, s5, s6⟩
                        go_simp
                        with_reducible rfl
                      rotate_left
                      · simp only [Act.put, List.setIfInBounds_toArray, List.set_cons_zero, List.set_cons_succ, i64_w, i32_w]
                        rfl
                      refine take_ (i := 9) (N := some 45) (v := ?_) (a' := ?_) #[true, true, true, true, true, true, true, true, true, true, true, true, false, true, true, false, true, true, false, true, true, false, false, false, false] rfl rfl (take_ofW HT_.out HW_.out (by kernel_rfl)) (fun _ _ _ h => h) (Or.inl ⟨by rfl, ?_⟩) hHeld ?_ ?_
                      rotate_left
                      · rintro w' ⟨s0, s1, s2, s3, s4, s5, s6⟩
                        go_simp
                        with_reducible rfl
                      rotate_left
                      · simp only [Act.put, List.setIfInBounds_toArray, List.set_cons_zero, List.set_cons_succ, i64_w, i32_w]
                        rfl
                      refine take_ (i := 12) (N := some 48) (v := ?_) (a' := ?_) #[true, true, true, true, true, true, true, true, true, true, true, true, true, true, true, false, true, true, false, true, true, false, false, false, false] rfl rfl (take_ofW HT_.out HW_.out (by kernel_rfl)) (fun _ _ _ h => h) (Or.inl ⟨by rfl, ?_⟩) hHeld ?_ ?_
                      rotate_left
                      · rintro w' ⟨s0, s1, s2, s3, s4, s5, s6⟩
                        go_simp
                        with_reducible rfl
                      rotate_left
                      · simp only [Act.put, List.setIfInBounds_toArray, List.set_cons_zero, List.set_cons_succ, i64_w, i32_w]
                        rfl
                      refine take_ (i := 15) (N := some 51) (v := ?_) (a' := ?_) #[true, true, true, true, true, true, true, true, true, true, true, true, true, true, true, true, true, true, false, true, true, false, false, false, false] rfl rfl (take_ofW HT_.out HW_.out (by kernel_rfl)) (fun _ _ _ h => h) (Or.inl ⟨by rfl, ?_⟩) hHeld ?_ ?_
                      rotate_left
                      · rintro w' ⟨s0, s1, s2, s3, s4, s5, s6⟩
                        go_simp
                        with_reducible rfl
                      rotate_left
                      · simp only [Act.put, List.setIfInBounds_toArray, List.set_cons_zero, List.set_cons_succ, i64_w, i32_w]
                        rfl
                      refine take_ (i := 18) (N := some 54) (v := ?_) (a' := ?_) #[true, true, true, true, true, true, true, true, true, true, true, true, true, true, true, true, true, true, true, true, true, false, false, false, false] rfl rfl (take_ofW HT_.out HW_.out (by kernel_rfl)) (fun _ _ _ h => h) (Or.inl ⟨by rfl, ?_⟩) hHeld ?_ ?_
                      rotate_left
                      · rintro w' ⟨s0, s1, s2, s3, s4, s5, s6⟩
                        go_simp
                        with_reducible rfl
                      rotate_left
                      · simp only [Act.put, List.setIfInBounds_toArray, List.set_cons_zero, List.set_cons_succ, i64_w, i32_w]
                        rfl
                      refine take_ (i := 21) (N := some 57) (v := ?_) (a' := ?_) #[true, true, true, true, true, true, true, true, true, true, true, true, true, true, true, true, true, true, true, true, true, true, false, false, false] rfl rfl (take_ofW HT_.out HW_.out (by kernel_rfl)) (fun _ _ _ h => h) (Or.inl ⟨by rfl, ?_⟩) hHeld ?_ ?_
                      rotate_left
                      · rintro w' ⟨s0, s1, s2, s3, s4, s5, s6⟩
                        go_simp
                        with_reducible rfl
                      rotate_left
                      · simp only [Act.put, List.setIfInBounds_toArray, List.set_cons_zero, List.set_cons_succ, i64_w, i32_w]
                        rfl
                      refine pure_ (i := 22) (N := some 58) (v := ?_) (a' := ?_) #[true, true, true, true, true, true, true, true, true, true, true, true, true, true, true, true, true, true, true, true, true, true, true, false, false] rfl rfl (any_of HT_.out (by kernel_rfl)) (fun _ _ _ h => h) (Or.inl ⟨by rfl, ?_⟩) ?_ ?_
                      rotate_left
                      · intro w'
                        go_simp
                        with_reducible rfl
                      rotate_left
                      · simp only [Act.put, List.setIfInBounds_toArray, List.set_cons_zero, List.set_cons_succ, i64_w, i32_w]
                        rfl
                      refine one_ (i := 23) (N := some 6) #[true, true, true, true, true, true, true, true, true, true, true, true, true, true, true, true, true, true, true, true, true, true, true, true, false] rfl rfl (one_of HT_.out (by kernel_rfl)) (by decide) (fun K hK => ?_)
                      refine box_step ?hg (N := 6) ?hd (cs := #[.int .i64 0, .int .u64 0, .int .u64 0, .int .u64 0, .int .u64 0, .int .u64 0, .int .u64 0, .bool false, .slice none 0 0, .string (⟨#[]⟩ : ByteArray)]) (t := 57) ?hr ?_; (case hd => rfl); (case hg => rfl); (case hr => first | (go_simp; done) | (go_simp; rfl))
                      intro gb552 hg w24 hbox hb
                      have HS0_ := (hb.cell (World.block_lt_of_cell? _ _ (hHeld.1))).trans (hHeld.1)
                      have HS1_ := (hb.cell (World.block_lt_of_cell? _ _ (hHeld.2.1))).trans (hHeld.2.1)
                      have HS2_ := (hb.cell (World.block_lt_of_cell? _ _ (hHeld.2.2.1))).trans (hHeld.2.2.1)
                      have HS3_ := (hb.cell (World.block_lt_of_cell? _ _ (hHeld.2.2.2.1))).trans (hHeld.2.2.2.1)
                      have HS4_ := (hb.cell (World.block_lt_of_cell? _ _ (hHeld.2.2.2.2.1))).trans (hHeld.2.2.2.2.1)
                      have HS5_ := (hb.cell (World.block_lt_of_cell? _ _ (hHeld.2.2.2.2.2.1))).trans (hHeld.2.2.2.2.2.1)
                      have HS6_ := (hb.cell (World.block_lt_of_cell? _ _ (hHeld.2.2.2.2.2.2))).trans (hHeld.2.2.2.2.2.2)
                      have n0_ := Aside0.mk (Kd.R_below (by (with_reducible repeat (first | apply Kd.R_alloc | apply Kd.R_drewN | apply Kd.R_drew)); exact HO_4.out) hb)
                      have n1_ := Aside0.mk (blk_below (g := gb538) (o := .cells #[.int .i64 0, .int .u64 0, .int .u64 0, .int .u64 0, .int .u64 0, .int .u64 0, .int .u64 0, .bool false, .slice none 0 0, .string (⟨#[]⟩ : ByteArray)] 57 (0, 0)) (by (with_reducible repeat (first | refine blk_drewN ?_ _ | refine blk_drew ?_ | refine blk_alloc ?_ _)); exact BK538.out) hb)
                      have n2_ := Aside0.mk (below_step (by repeat (first | (with_reducible first | exact HB.out | apply below_alloc | apply pw_below_drewN | apply below_drew1 | refine below_set ?_ GE538.out) | exact HB.out | exact Below.refl _ _)) hb)
                      have n3_ := Aside0.mk (hbox)
                      have n4_ := Aside0.mk ((by rw [hg]; exact (below_size (by repeat (first | (with_reducible first | exact HB.out | apply below_alloc | apply pw_below_drewN | apply below_drew1 | refine below_set ?_ GE538.out) | exact HB.out))) : w.heap.size ≤ gb552))
                      have n5_ := Aside0.mk ((by rw [hg]; exact (below_size (by repeat (first | (with_reducible first | exact HB.out | apply below_alloc | apply pw_below_drewN | apply below_drew1 | refine below_set ?_ GE538.out) | exact HB.out))) : w.heap.size ≤ gb552))
                      have n6_ := Aside0.mk ((by rw [hg]; exact Nat.ne_of_lt (blk_lt (g := gb538) (o := .cells #[.int .i64 0, .int .u64 0, .int .u64 0, .int .u64 0, .int .u64 0, .int .u64 0, .int .u64 0, .bool false, .slice none 0 0, .string (⟨#[]⟩ : ByteArray)] 57 (0, 0)) (by (with_reducible repeat (first | refine blk_drewN ?_ _ | refine blk_drew ?_ | refine blk_alloc ?_ _)); exact BK538.out)) : gb538 ≠ gb552))
                      have n7_ := Aside0.mk ((by rw [hg]; exact Nat.ne_of_gt (blk_lt (g := gb538) (o := .cells #[.int .i64 0, .int .u64 0, .int .u64 0, .int .u64 0, .int .u64 0, .int .u64 0, .int .u64 0, .bool false, .slice none 0 0, .string (⟨#[]⟩ : ByteArray)] 57 (0, 0)) (by (with_reducible repeat (first | refine blk_drewN ?_ _ | refine blk_drew ?_ | refine blk_alloc ?_ _)); exact BK538.out)) : gb552 ≠ gb538))
                      clear HO_4
                      clear BK538
                      clear HB
                      have HO_4 := n0_
                      have BK538 := n1_
                      have HB := n2_
                      have BK552 := n3_
                      have GW552 := n4_
                      have GE552 := n5_
                      have NB538_552 := n6_
                      have NB552_538 := n7_
                      clear n0_ n1_ n2_ n3_ n4_ n5_ n6_ n7_
                      clear hb hbox hg
                      refine hK.out _ _ ⟨HS0_, HS1_, HS2_, HS3_, HS4_, HS5_, HS6_⟩ (fun hHeld => ?_)
                      clear hK K
                      refine norm_ (a' := ?_) ?_ ?_
                      rotate_left
                      · show Act.put _ (some 6) _ = _
                        simp only [Act.put, List.setIfInBounds_toArray, List.set_cons_zero, List.set_cons_succ, i64_w, i32_w]
                        rfl
                      refine one_ (i := 24) (N := none) #[true, true, true, true, true, true, true, true, true, true, true, true, true, true, true, true, true, true, true, true, true, true, true, true, true] rfl rfl (one_of HT_.out (by kernel_rfl)) (by decide) (fun K hK => ?_)
                      refine skip_ (w1 := w24.setRow gb552 #[.int .i64 (wrap64 (rd t539 0)), .int .u64 (rd t539 1), .int .u64 (rd t539 2), .int .u64 (rd t539 3), .int .u64 (rd t539 4), .int .u64 (rd t539 5), .int .u64 (rd t539 6), .bool false, (.slice none 0 0), .string (⟨#[]⟩ : ByteArray)]) (by rfl) rfl (by refine exec_store10r rfl rfl ?hs_ BK552.out (by kernel_rfl) ?h1_; (case hs_ => rfl); (case h1_ => rfl)) ?_
                      have hne_ : ad545.block ≠ gb552 := Kd.own_blk (Kd.R_ne HO_4.out BK552.out (by decide))
                      have hH_ := And.intro ((row_cell (p := ad545) hne_ #[.int .i64 (wrap64 (rd t539 0)), .int .u64 (rd t539 1), .int .u64 (rd t539 2), .int .u64 (rd t539 3), .int .u64 (rd t539 4), .int .u64 (rd t539 5), .int .u64 (rd t539 6), .bool false, (.slice none 0 0), .string (⟨#[]⟩ : ByteArray)]).trans (hHeld.1)) (And.intro ((row_cell (p := ⟨ad545.block, ad545.off + 1, none⟩) hne_ #[.int .i64 (wrap64 (rd t539 0)), .int .u64 (rd t539 1), .int .u64 (rd t539 2), .int .u64 (rd t539 3), .int .u64 (rd t539 4), .int .u64 (rd t539 5), .int .u64 (rd t539 6), .bool false, (.slice none 0 0), .string (⟨#[]⟩ : ByteArray)]).trans (hHeld.2.1)) (And.intro ((row_cell (p := ⟨ad545.block, ad545.off + 2, none⟩) hne_ #[.int .i64 (wrap64 (rd t539 0)), .int .u64 (rd t539 1), .int .u64 (rd t539 2), .int .u64 (rd t539 3), .int .u64 (rd t539 4), .int .u64 (rd t539 5), .int .u64 (rd t539 6), .bool false, (.slice none 0 0), .string (⟨#[]⟩ : ByteArray)]).trans (hHeld.2.2.1)) (And.intro ((row_cell (p := ⟨ad545.block, ad545.off + 3, none⟩) hne_ #[.int .i64 (wrap64 (rd t539 0)), .int .u64 (rd t539 1), .int .u64 (rd t539 2), .int .u64 (rd t539 3), .int .u64 (rd t539 4), .int .u64 (rd t539 5), .int .u64 (rd t539 6), .bool false, (.slice none 0 0), .string (⟨#[]⟩ : ByteArray)]).trans (hHeld.2.2.2.1)) (And.intro ((row_cell (p := ⟨ad545.block, ad545.off + 4, none⟩) hne_ #[.int .i64 (wrap64 (rd t539 0)), .int .u64 (rd t539 1), .int .u64 (rd t539 2), .int .u64 (rd t539 3), .int .u64 (rd t539 4), .int .u64 (rd t539 5), .int .u64 (rd t539 6), .bool false, (.slice none 0 0), .string (⟨#[]⟩ : ByteArray)]).trans (hHeld.2.2.2.2.1)) (And.intro ((row_cell (p := ⟨ad545.block, ad545.off + 5, none⟩) hne_ #[.int .i64 (wrap64 (rd t539 0)), .int .u64 (rd t539 1), .int .u64 (rd t539 2), .int .u64 (rd t539 3), .int .u64 (rd t539 4), .int .u64 (rd t539 5), .int .u64 (rd t539 6), .bool false, (.slice none 0 0), .string (⟨#[]⟩ : ByteArray)]).trans (hHeld.2.2.2.2.2.1)) ((row_cell (p := ⟨ad545.block, ad545.off + 6, none⟩) hne_ #[.int .i64 (wrap64 (rd t539 0)), .int .u64 (rd t539 1), .int .u64 (rd t539 2), .int .u64 (rd t539 3), .int .u64 (rd t539 4), .int .u64 (rd t539 5), .int .u64 (rd t539 6), .bool false, (.slice none 0 0), .string (⟨#[]⟩ : ByteArray)]).trans (hHeld.2.2.2.2.2.2)))))))
                      have n0_ := Aside0.mk (setRow_heap w24 gb552 _ #[.int .i64 (wrap64 (rd t539 0)), .int .u64 (rd t539 1), .int .u64 (rd t539 2), .int .u64 (rd t539 3), .int .u64 (rd t539 4), .int .u64 (rd t539 5), .int .u64 (rd t539 6), .bool false, (.slice none 0 0), .string (⟨#[]⟩ : ByteArray)] 57 (0, 0) BK552.out)
                      have n1_ := Aside0.mk (row_blk BK538.out NB538_552.out #[.int .i64 (wrap64 (rd t539 0)), .int .u64 (rd t539 1), .int .u64 (rd t539 2), .int .u64 (rd t539 3), .int .u64 (rd t539 4), .int .u64 (rd t539 5), .int .u64 (rd t539 6), .bool false, (.slice none 0 0), .string (⟨#[]⟩ : ByteArray)])
                      have n2_ := Aside0.mk (row_below HB.out GE552.out #[.int .i64 (wrap64 (rd t539 0)), .int .u64 (rd t539 1), .int .u64 (rd t539 2), .int .u64 (rd t539 3), .int .u64 (rd t539 4), .int .u64 (rd t539 5), .int .u64 (rd t539 6), .bool false, (.slice none 0 0), .string (⟨#[]⟩ : ByteArray)])
                      clear BK552 BK538 HB HO_4
                      generalize w24.setRow gb552 #[.int .i64 (wrap64 (rd t539 0)), .int .u64 (rd t539 1), .int .u64 (rd t539 2), .int .u64 (rd t539 3), .int .u64 (rd t539 4), .int .u64 (rd t539 5), .int .u64 (rd t539 6), .bool false, (.slice none 0 0), .string (⟨#[]⟩ : ByteArray)] = wY_ at hH_ n0_ n1_ n2_ ⊢
                      have BK552 := n0_
                      have BK538 := n1_
                      have HB := n2_
                      clear n0_ n1_ n2_
                      refine hK.out _ _ hH_ (fun hHeld => ?_)
                      clear hK K
                      refine done_ (done_of HT_.out (by kernel_rfl)) ?_
                      go_upto_region 6 with (first | ((with_reducible refine gate_callee (f := 92) rfl ?_); refine goesL_ (some 61) rfl rfl Try.func92 (by kernel_rfl) rfl #[.string t540] rfl (by (try simp only [List.map_toArray, List.map_cons, List.map_nil]); first | done | rfl | (simp only [List.length_drop, List.length_take]; rfl)) ?_; (with_reducible refine (pack_TakeNum.calls kj2 t540 t553 t554 t555 _ A20.out).mono ?_); rintro e w' ⟨rfl, ⟨nd, rfl⟩⟩; refine ⟨_, rfl, ?_⟩))
                      (try simp only [Act.put, List.setIfInBounds_toArray, List.set_cons_zero, List.set_cons_succ])
                      go_cut [70] (fun v70 wc => ∃ (kq : Nat) (x70_20 : Bool), v70 = .bool x70_20 ∧ Aside0 (post_take.j1 kq t554 t553 x70_20 (wrap64 (rd t539 0)) (rd t539 1) (rd t539 2) (rd t539 3) (rd t539 4) (rd t539 5) (rd t539 6) false (⟨#[]⟩ : ByteArray) = some (r1, r2, r3, r4, r5, r6, r7, r8, r9, r10, r11)) ∧ Aside0 (kq ≤ kj2) ∧ Aside0 (wc.heap[gb538]? = some (.cells #[.int .i64 0, .int .u64 0, .int .u64 0, .int .u64 0, .int .u64 0, .int .u64 0, .int .u64 0, .bool false, (.slice none 0 0), .string (⟨#[]⟩ : ByteArray)] 57 (0, 0))) ∧ Aside0 (wc.heap[gb552]? = some (.cells #[.int .i64 (wrap64 (rd t539 0)), .int .u64 (rd t539 1), .int .u64 (rd t539 2), .int .u64 (rd t539 3), .int .u64 (rd t539 4), .int .u64 (rd t539 5), .int .u64 (rd t539 6), .bool false, (.slice none 0 0), .string (⟨#[]⟩ : ByteArray)] 57 (0, 0))) ∧ Aside0 (Below w.heap.size w wc))
                      case first =>
                        have H := HC21.out
                        clear HC21
                        by_cases c35 : t555 = 0
                        · rw [if_pos c35] at H
                          have c35b0 : (t555 == 0) = true := beq_iff_eq.mpr c35
                          have c35b1 : (t555 != 0) = false := bne_eq_false_iff_eq.mpr c35
                          clear c35
                          (first | rw [c35b0] | (simp only [i64_w, i32_w]; rw [c35b0]) | skip)
                          have H' := Aside0.mk H
                          clear H
                          go_wp2
                          go_meet
                          case rel => exact ⟨_, (decide (t553 > 1)), (by first | rfl | (simp; done) | (simp [*]; done)), H', ⟨by have := HJ2.out; first | omega | exact Nat.le_refl _⟩, ⟨by (with_reducible repeat (first | refine blk_drewN ?_ _ | refine blk_drew ?_ | refine blk_alloc ?_ _)); exact BK538.out⟩, ⟨by (with_reducible repeat (first | refine blk_drewN ?_ _ | refine blk_drew ?_ | refine blk_alloc ?_ _)); exact BK552.out⟩, ⟨by repeat (first | (with_reducible first | exact HB.out | apply below_alloc | apply pw_below_drewN | apply below_drew1 | refine below_set ?_ GE538.out | refine below_set ?_ GE552.out) | exact HB.out)⟩⟩
                        · rw [if_neg c35] at H
                          have c35b0 : (t555 == 0) = false := beq_eq_false_iff_ne.mpr c35
                          have c35b1 : (t555 != 0) = true := bne_iff_ne.mpr c35
                          (first | rw [c35b0] | (simp only [i64_w, i32_w]; rw [c35b0]) | skip)
                          have H' := Aside0.mk H
                          clear H
                          go_wp2
                          go_meet
                          case rel => exact ⟨_, (true), (by first | rfl | (simp; done) | (simp [*]; done)), H', ⟨by have := HJ2.out; first | omega | exact Nat.le_refl _⟩, ⟨by (with_reducible repeat (first | refine blk_drewN ?_ _ | refine blk_drew ?_ | refine blk_alloc ?_ _)); exact BK538.out⟩, ⟨by (with_reducible repeat (first | refine blk_drewN ?_ _ | refine blk_drew ?_ | refine blk_alloc ?_ _)); exact BK552.out⟩, ⟨by repeat (first | (with_reducible first | exact HB.out | apply below_alloc | apply pw_below_drewN | apply below_drew1 | refine below_set ?_ GE538.out | refine below_set ?_ GE552.out) | exact HB.out)⟩⟩
                      case rest =>
                        clear HC21
                        try clear c1
                        try clear p2
                        try clear c3
                        try clear p5
                        try clear q5
                        try clear hx5
                        try clear qi5
                        try clear c6
                        try clear c6b0
                        try clear c6b1
                        try clear p6
                        try clear c7
                        try clear c7b0
                        try clear c7b1
                        try clear c8
                        try clear c8b0
                        try clear c8b1
                        try clear c9
                        try clear c11
                        try clear c13
                        try clear c13b0
                        try clear c13b1
                        try clear c14
                        try clear c14b0
                        try clear c14b1
                        try clear c15
                        try clear c15b0
                        try clear c15b1
                        try clear c16
                        try clear c16b0
                        try clear c16b1
                        try clear c17
                        try clear c17b0
                        try clear c17b1
                        try clear c18
                        try clear c18b0
                        try clear c18b1
                        try clear c19
                        try clear c19b0
                        try clear c19b1
                        try clear c35
                        try clear c35b0
                        try clear c35b1
                        try clear hcz12_0
                        try clear hcz12_1
                        try clear hcz12_2
                        try clear hcz12_3
                        try clear hcz12_4
                        try clear hcz12_5
                        try clear hcz12_6
                        try clear hcz12_7
                        try clear hcz12_8
                        try clear hcz12_9
                        try clear hfz12_0
                        try clear hfz12_1
                        try clear hfz12_2
                        try clear hfz12_3
                        try clear hfz12_4
                        try clear hfz12_5
                        try clear hfz12_6
                        try clear hfz12_7
                        try clear hfz12_8
                        try clear hfz12_9
                        try clear hx544_0
                        try clear hx545_0
                        try clear hx546_0
                        try clear hx547_0
                        try clear hx548_0
                        try clear hx549_0
                        try clear hx550_0
                        try clear hx551_0
                        try clear p2
                        try clear p5
                        try clear p544
                        try clear p545
                        try clear p546
                        try clear p547
                        try clear p548
                        try clear p549
                        try clear p550
                        try clear p551
                        try clear q5
                        try clear q544
                        try clear q545
                        try clear q546
                        try clear q547
                        try clear q548
                        try clear q549
                        try clear q550
                        try clear q551
                        obtain ⟨kq, x70_20, rfl, HA, HJ20, BK538, BK552, HB⟩ := hcut
                        cases kq with
                        | zero => exact absurd HA.out (by simp [post_take.j1])
                        | succ kj20 =>
                          have H := HA.out
                          clear HA
                          simp only [post_take.j1] at H
                          by_cases c36 : x70_20 = true
                          · subst c36
                            have H1 : (some (0, 0, 0, 0, 0, 0, 0, false, ([] : List (S75)), (⟨#[]⟩ : ByteArray), false)) = some (r1, r2, r3, r4, r5, r6, r7, r8, r9, r10, r11) := by rw [if_pos rfl] at H; exact H
                            clear H
                            have H := H1
                            clear H1
                            simp only [Option.some.injEq, Prod.mk.injEq] at H
                            obtain ⟨rfl, rfl, rfl, rfl, rfl, rfl, rfl, rfl, rfl, rfl, rfl⟩ := H
                            have hnb37 := NB538_552.out
                            have hnc37 := NB552_538.out
                            have hcz38_0 : wc.cell? ⟨gb538, 0, none⟩ = some (.int .i64 0) := (blk_cell BK538.out 0).trans rfl
                            have hcz38_1 : wc.cell? ⟨gb538, 1, none⟩ = some (.int .u64 0) := (blk_cell BK538.out 1).trans rfl
                            have hcz38_2 : wc.cell? ⟨gb538, 2, none⟩ = some (.int .u64 0) := (blk_cell BK538.out 2).trans rfl
                            have hcz38_3 : wc.cell? ⟨gb538, 3, none⟩ = some (.int .u64 0) := (blk_cell BK538.out 3).trans rfl
                            have hcz38_4 : wc.cell? ⟨gb538, 4, none⟩ = some (.int .u64 0) := (blk_cell BK538.out 4).trans rfl
                            have hcz38_5 : wc.cell? ⟨gb538, 5, none⟩ = some (.int .u64 0) := (blk_cell BK538.out 5).trans rfl
                            have hcz38_6 : wc.cell? ⟨gb538, 6, none⟩ = some (.int .u64 0) := (blk_cell BK538.out 6).trans rfl
                            have hcz38_7 : wc.cell? ⟨gb538, 7, none⟩ = some (.bool false) := (blk_cell BK538.out 7).trans rfl
                            have hcz38_8 : wc.cell? ⟨gb538, 8, none⟩ = some (.slice none 0 0) := (blk_cell BK538.out 8).trans rfl
                            have hcz38_9 : wc.cell? ⟨gb538, 9, none⟩ = some (.string (⟨#[]⟩ : ByteArray)) := (blk_cell BK538.out 9).trans rfl
                            have hfz38_0 := blk_frozen BK538.out 0
                            have hfz38_1 := blk_frozen BK538.out 1
                            have hfz38_2 := blk_frozen BK538.out 2
                            have hfz38_3 := blk_frozen BK538.out 3
                            have hfz38_4 := blk_frozen BK538.out 4
                            have hfz38_5 := blk_frozen BK538.out 5
                            have hfz38_6 := blk_frozen BK538.out 6
                            have hfz38_7 := blk_frozen BK538.out 7
                            have hfz38_8 := blk_frozen BK538.out 8
                            have hfz38_9 := blk_frozen BK538.out 9
                            go_wp2
                            refine bodyPost_ret (results_ct rfl _ _ gb538 57 #[.int .i64 0, .int .u64 0, .int .u64 0, .int .u64 0, .int .u64 0, .int .u64 0, .int .u64 0, .bool false, .slice none 0 0, .string (⟨#[]⟩ : ByteArray)] (0, 0) _ rfl (by (with_reducible repeat (first | refine blk_drewN ?_ _ | refine blk_drew ?_ | refine blk_alloc ?_ _)); refine blk_put (cs := #[.int .i64 0, .int .u64 0, .int .u64 0, .int .u64 0, .int .u64 0, .int .u64 0, .int .u64 0, .bool false, .slice none 0 0, .string (⟨#[]⟩ : ByteArray)]) ?_ 9 _ rfl; (with_reducible repeat (first | refine blk_drewN ?_ _ | refine blk_drew ?_ | refine blk_alloc ?_ _)); refine blk_put (cs := #[.int .i64 0, .int .u64 0, .int .u64 0, .int .u64 0, .int .u64 0, .int .u64 0, .int .u64 0, .bool false, .slice none 0 0, .string (⟨#[]⟩ : ByteArray)]) ?_ 8 _ rfl; (with_reducible repeat (first | refine blk_drewN ?_ _ | refine blk_drew ?_ | refine blk_alloc ?_ _)); refine blk_put (cs := #[.int .i64 0, .int .u64 0, .int .u64 0, .int .u64 0, .int .u64 0, .int .u64 0, .int .u64 0, .bool false, .slice none 0 0, .string (⟨#[]⟩ : ByteArray)]) ?_ 7 _ rfl; (with_reducible repeat (first | refine blk_drewN ?_ _ | refine blk_drew ?_ | refine blk_alloc ?_ _)); refine blk_put (cs := #[.int .i64 0, .int .u64 0, .int .u64 0, .int .u64 0, .int .u64 0, .int .u64 0, .int .u64 0, .bool false, .slice none 0 0, .string (⟨#[]⟩ : ByteArray)]) ?_ 6 _ rfl; (with_reducible repeat (first | refine blk_drewN ?_ _ | refine blk_drew ?_ | refine blk_alloc ?_ _)); refine blk_put (cs := #[.int .i64 0, .int .u64 0, .int .u64 0, .int .u64 0, .int .u64 0, .int .u64 0, .int .u64 0, .bool false, .slice none 0 0, .string (⟨#[]⟩ : ByteArray)]) ?_ 5 _ rfl; (with_reducible repeat (first | refine blk_drewN ?_ _ | refine blk_drew ?_ | refine blk_alloc ?_ _)); refine blk_put (cs := #[.int .i64 0, .int .u64 0, .int .u64 0, .int .u64 0, .int .u64 0, .int .u64 0, .int .u64 0, .bool false, .slice none 0 0, .string (⟨#[]⟩ : ByteArray)]) ?_ 4 _ rfl; (with_reducible repeat (first | refine blk_drewN ?_ _ | refine blk_drew ?_ | refine blk_alloc ?_ _)); refine blk_put (cs := #[.int .i64 0, .int .u64 0, .int .u64 0, .int .u64 0, .int .u64 0, .int .u64 0, .int .u64 0, .bool false, .slice none 0 0, .string (⟨#[]⟩ : ByteArray)]) ?_ 3 _ rfl; (with_reducible repeat (first | refine blk_drewN ?_ _ | refine blk_drew ?_ | refine blk_alloc ?_ _)); refine blk_put (cs := #[.int .i64 0, .int .u64 0, .int .u64 0, .int .u64 0, .int .u64 0, .int .u64 0, .int .u64 0, .bool false, .slice none 0 0, .string (⟨#[]⟩ : ByteArray)]) ?_ 2 _ rfl; (with_reducible repeat (first | refine blk_drewN ?_ _ | refine blk_drew ?_ | refine blk_alloc ?_ _)); refine blk_put (cs := #[.int .i64 0, .int .u64 0, .int .u64 0, .int .u64 0, .int .u64 0, .int .u64 0, .int .u64 0, .bool false, .slice none 0 0, .string (⟨#[]⟩ : ByteArray)]) ?_ 1 _ rfl; (with_reducible repeat (first | refine blk_drewN ?_ _ | refine blk_drew ?_ | refine blk_alloc ?_ _)); refine blk_put (cs := #[.int .i64 0, .int .u64 0, .int .u64 0, .int .u64 0, .int .u64 0, .int .u64 0, .int .u64 0, .bool false, .slice none 0 0, .string (⟨#[]⟩ : ByteArray)]) ?_ 0 _ rfl; (with_reducible repeat (first | refine blk_drewN ?_ _ | refine blk_drew ?_ | refine blk_alloc ?_ _)); exact BK538.out) Try.underlying57 rfl (by kernel_rfl)) rfl ?_
                            exact ⟨_, by first | rfl | (simp [errW_none, errW_some] <;> rfl) | (simp [*, errW_none, errW_some] <;> rfl), by first | exact Kd.R_nil _ _ _ _ _ | exact Kd.N_nil _ _ _ _ _ | exact Kd.V_nil _ _ _ _ _ | exact Kd.Q_nil _ _ _ _ _ | exact Kd.S_nil _ _ _ _ _, by repeat (first | (with_reducible first | exact HB.out | apply below_alloc | apply pw_below_drewN | apply below_drew1 | refine below_set ?_ GE538.out | refine below_set ?_ GE552.out) | exact HB.out)⟩
                          · replace c36 := Bool.eq_false_iff.mpr c36
                            subst c36
                            have H1 : ((pack_TakeNum.f kj20 t554).bind fun bt556 => (if bt556.2.2 = 0 then (post_take.j2 kj20 bt556.2.1 bt556.1 (decide (bt556.1 > 8)) (wrap64 (rd t539 0)) (rd t539 1) (rd t539 2) (rd t539 3) (rd t539 4) (rd t539 5) (rd t539 6) (t553 == 1) (⟨#[]⟩ : ByteArray)) else (post_take.j2 kj20 bt556.2.1 bt556.1 true (wrap64 (rd t539 0)) (rd t539 1) (rd t539 2) (rd t539 3) (rd t539 4) (rd t539 5) (rd t539 6) (t553 == 1) (⟨#[]⟩ : ByteArray)))) = some (r1, r2, r3, r4, r5, r6, r7, r8, r9, r10, r11) := by rw [if_neg (show ¬ (false = true) by decide)] at H; exact H
                            clear H
                            have H := H1
                            clear H1
                            replace H := Option.bind_eq_some_iff.mp H
                            obtain ⟨⟨t556, t557, t558⟩, A390, H⟩ := H
                            replace H : (if t558 = 0 then (post_take.j2 kj20 t557 t556 (decide (t556 > 8)) (wrap64 (rd t539 0)) (rd t539 1) (rd t539 2) (rd t539 3) (rd t539 4) (rd t539 5) (rd t539 6) (t553 == 1) (⟨#[]⟩ : ByteArray)) else (post_take.j2 kj20 t557 t556 true (wrap64 (rd t539 0)) (rd t539 1) (rd t539 2) (rd t539 3) (rd t539 4) (rd t539 5) (rd t539 6) (t553 == 1) (⟨#[]⟩ : ByteArray))) = some (r1, r2, r3, r4, r5, r6, r7, r8, r9, r10, r11) := H
                            have A39 := Aside0.mk A390
                            clear A390
                            have HC40 := Aside0.mk H
                            clear H
                            have hnb41 := NB552_538.out
                            have hnc41 := NB538_552.out
                            have hcz42_0 : wc.cell? ⟨gb552, 0, none⟩ = some (.int .i64 (wrap64 (rd t539 0))) := (blk_cell BK552.out 0).trans rfl
                            have hcz42_1 : wc.cell? ⟨gb552, 1, none⟩ = some (.int .u64 (rd t539 1)) := (blk_cell BK552.out 1).trans rfl
                            have hcz42_2 : wc.cell? ⟨gb552, 2, none⟩ = some (.int .u64 (rd t539 2)) := (blk_cell BK552.out 2).trans rfl
                            have hcz42_3 : wc.cell? ⟨gb552, 3, none⟩ = some (.int .u64 (rd t539 3)) := (blk_cell BK552.out 3).trans rfl
                            have hcz42_4 : wc.cell? ⟨gb552, 4, none⟩ = some (.int .u64 (rd t539 4)) := (blk_cell BK552.out 4).trans rfl
                            have hcz42_5 : wc.cell? ⟨gb552, 5, none⟩ = some (.int .u64 (rd t539 5)) := (blk_cell BK552.out 5).trans rfl
                            have hcz42_6 : wc.cell? ⟨gb552, 6, none⟩ = some (.int .u64 (rd t539 6)) := (blk_cell BK552.out 6).trans rfl
                            have hcz42_7 : wc.cell? ⟨gb552, 7, none⟩ = some (.bool false) := (blk_cell BK552.out 7).trans rfl
                            have hcz42_8 : wc.cell? ⟨gb552, 8, none⟩ = some (.slice none 0 0) := (blk_cell BK552.out 8).trans rfl
                            have hcz42_9 : wc.cell? ⟨gb552, 9, none⟩ = some (.string (⟨#[]⟩ : ByteArray)) := (blk_cell BK552.out 9).trans rfl
                            have hfz42_0 := blk_frozen BK552.out 0
                            have hfz42_1 := blk_frozen BK552.out 1
                            have hfz42_2 := blk_frozen BK552.out 2
                            have hfz42_3 := blk_frozen BK552.out 3
                            have hfz42_4 := blk_frozen BK552.out 4
                            have hfz42_5 := blk_frozen BK552.out 5
                            have hfz42_6 := blk_frozen BK552.out 6
                            have hfz42_7 := blk_frozen BK552.out 7
                            have hfz42_8 := blk_frozen BK552.out 8
                            have hfz42_9 := blk_frozen BK552.out 9
                            go_upto_region 10 with (first | ((with_reducible refine gate_callee (f := 92) rfl ?_); refine goesL_ (some 77) rfl rfl Try.func92 (by kernel_rfl) rfl #[.string t554] rfl (by (try simp only [List.map_toArray, List.map_cons, List.map_nil]); first | done | rfl | (simp only [List.length_drop, List.length_take]; rfl)) ?_; (with_reducible refine (pack_TakeNum.calls kj20 t554 t556 t557 t558 _ A39.out).mono ?_); rintro e w' ⟨rfl, ⟨nd, rfl⟩⟩; refine ⟨_, rfl, ?_⟩))
                            (try simp only [Act.put, List.setIfInBounds_toArray, List.set_cons_zero, List.set_cons_succ])
                            go_cut [86] (fun v86 wc => ∃ (kq : Nat) (x86_39 : Bool), v86 = .bool x86_39 ∧ Aside0 (post_take.j2 kq t557 t556 x86_39 (wrap64 (rd t539 0)) (rd t539 1) (rd t539 2) (rd t539 3) (rd t539 4) (rd t539 5) (rd t539 6) (t553 == 1) (⟨#[]⟩ : ByteArray) = some (r1, r2, r3, r4, r5, r6, r7, r8, r9, r10, r11)) ∧ Aside0 (kq ≤ kj20) ∧ Aside0 (wc.heap[gb538]? = some (.cells #[.int .i64 0, .int .u64 0, .int .u64 0, .int .u64 0, .int .u64 0, .int .u64 0, .int .u64 0, .bool false, (.slice none 0 0), .string (⟨#[]⟩ : ByteArray)] 57 (0, 0))) ∧ Aside0 (wc.heap[gb552]? = some (.cells #[.int .i64 (wrap64 (rd t539 0)), .int .u64 (rd t539 1), .int .u64 (rd t539 2), .int .u64 (rd t539 3), .int .u64 (rd t539 4), .int .u64 (rd t539 5), .int .u64 (rd t539 6), .bool (t553 == 1), (.slice none 0 0), .string (⟨#[]⟩ : ByteArray)] 57 (0, 0))) ∧ Aside0 (Below w.heap.size w wc))
                            case first =>
                              have H := HC40.out
                              clear HC40
                              by_cases c43 : t558 = 0
                              · rw [if_pos c43] at H
                                have c43b0 : (t558 == 0) = true := beq_iff_eq.mpr c43
                                have c43b1 : (t558 != 0) = false := bne_eq_false_iff_eq.mpr c43
                                clear c43
                                (first | rw [c43b0] | (simp only [i64_w, i32_w]; rw [c43b0]) | skip)
                                have H' := Aside0.mk H
                                clear H
                                go_wp2
                                go_meet
                                case rel => exact ⟨_, (decide (t556 > 8)), (by first | rfl | (simp; done) | (simp [*]; done)), H', ⟨by have := HJ2.out; have := HJ20.out; first | omega | exact Nat.le_refl _⟩, ⟨by (with_reducible repeat (first | refine blk_drewN ?_ _ | refine blk_drew ?_ | refine blk_alloc ?_ _)); refine blk_far ?_ NB538_552.out _; (with_reducible repeat (first | refine blk_drewN ?_ _ | refine blk_drew ?_ | refine blk_alloc ?_ _)); exact BK538.out⟩, ⟨by (with_reducible repeat (first | refine blk_drewN ?_ _ | refine blk_drew ?_ | refine blk_alloc ?_ _)); refine blk_put (cs := #[.int .i64 (wrap64 (rd t539 0)), .int .u64 (rd t539 1), .int .u64 (rd t539 2), .int .u64 (rd t539 3), .int .u64 (rd t539 4), .int .u64 (rd t539 5), .int .u64 (rd t539 6), .bool false, .slice none 0 0, .string (⟨#[]⟩ : ByteArray)]) ?_ 7 _ rfl; (with_reducible repeat (first | refine blk_drewN ?_ _ | refine blk_drew ?_ | refine blk_alloc ?_ _)); exact BK552.out⟩, ⟨by repeat (first | (with_reducible first | exact HB.out | apply below_alloc | apply pw_below_drewN | apply below_drew1 | refine below_set ?_ GE538.out | refine below_set ?_ GE552.out) | exact HB.out)⟩⟩
                              · rw [if_neg c43] at H
                                have c43b0 : (t558 == 0) = false := beq_eq_false_iff_ne.mpr c43
                                have c43b1 : (t558 != 0) = true := bne_iff_ne.mpr c43
                                (first | rw [c43b0] | (simp only [i64_w, i32_w]; rw [c43b0]) | skip)
                                have H' := Aside0.mk H
                                clear H
                                go_wp2
                                go_meet
                                case rel => exact ⟨_, (true), (by first | rfl | (simp; done) | (simp [*]; done)), H', ⟨by have := HJ2.out; have := HJ20.out; first | omega | exact Nat.le_refl _⟩, ⟨by (with_reducible repeat (first | refine blk_drewN ?_ _ | refine blk_drew ?_ | refine blk_alloc ?_ _)); refine blk_far ?_ NB538_552.out _; (with_reducible repeat (first | refine blk_drewN ?_ _ | refine blk_drew ?_ | refine blk_alloc ?_ _)); exact BK538.out⟩, ⟨by (with_reducible repeat (first | refine blk_drewN ?_ _ | refine blk_drew ?_ | refine blk_alloc ?_ _)); refine blk_put (cs := #[.int .i64 (wrap64 (rd t539 0)), .int .u64 (rd t539 1), .int .u64 (rd t539 2), .int .u64 (rd t539 3), .int .u64 (rd t539 4), .int .u64 (rd t539 5), .int .u64 (rd t539 6), .bool false, .slice none 0 0, .string (⟨#[]⟩ : ByteArray)]) ?_ 7 _ rfl; (with_reducible repeat (first | refine blk_drewN ?_ _ | refine blk_drew ?_ | refine blk_alloc ?_ _)); exact BK552.out⟩, ⟨by repeat (first | (with_reducible first | exact HB.out | apply below_alloc | apply pw_below_drewN | apply below_drew1 | refine below_set ?_ GE538.out | refine below_set ?_ GE552.out) | exact HB.out)⟩⟩
                            case rest =>
                              clear HC40
                              try clear c1
                              try clear p2
                              try clear c3
                              try clear c4
                              try clear p5
                              try clear q5
                              try clear hx5
                              try clear qi5
                              try clear c6
                              try clear c6b0
                              try clear c6b1
                              try clear p6
                              try clear c7
                              try clear c7b0
                              try clear c7b1
                              try clear c8
                              try clear c8b0
                              try clear c8b1
                              try clear c9
                              try clear c11
                              try clear c13
                              try clear c13b0
                              try clear c13b1
                              try clear c14
                              try clear c14b0
                              try clear c14b1
                              try clear c15
                              try clear c15b0
                              try clear c15b1
                              try clear c16
                              try clear c16b0
                              try clear c16b1
                              try clear c17
                              try clear c17b0
                              try clear c17b1
                              try clear c18
                              try clear c18b0
                              try clear c18b1
                              try clear c19
                              try clear c19b0
                              try clear c19b1
                              try clear c35
                              try clear c35b0
                              try clear c35b1
                              try clear c36
                              try clear c37
                              try clear c41
                              try clear c43
                              try clear c43b0
                              try clear c43b1
                              try clear hcz12_0
                              try clear hcz12_1
                              try clear hcz12_2
                              try clear hcz12_3
                              try clear hcz12_4
                              try clear hcz12_5
                              try clear hcz12_6
                              try clear hcz12_7
                              try clear hcz12_8
                              try clear hcz12_9
                              try clear hcz38_0
                              try clear hcz38_1
                              try clear hcz38_2
                              try clear hcz38_3
                              try clear hcz38_4
                              try clear hcz38_5
                              try clear hcz38_6
                              try clear hcz38_7
                              try clear hcz38_8
                              try clear hcz38_9
                              try clear hcz42_0
                              try clear hcz42_1
                              try clear hcz42_2
                              try clear hcz42_3
                              try clear hcz42_4
                              try clear hcz42_5
                              try clear hcz42_6
                              try clear hcz42_7
                              try clear hcz42_8
                              try clear hcz42_9
                              try clear hfz12_0
                              try clear hfz12_1
                              try clear hfz12_2
                              try clear hfz12_3
                              try clear hfz12_4
                              try clear hfz12_5
                              try clear hfz12_6
                              try clear hfz12_7
                              try clear hfz12_8
                              try clear hfz12_9
                              try clear hfz38_0
                              try clear hfz38_1
                              try clear hfz38_2
                              try clear hfz38_3
                              try clear hfz38_4
                              try clear hfz38_5
                              try clear hfz38_6
                              try clear hfz38_7
                              try clear hfz38_8
                              try clear hfz38_9
                              try clear hfz42_0
                              try clear hfz42_1
                              try clear hfz42_2
                              try clear hfz42_3
                              try clear hfz42_4
                              try clear hfz42_5
                              try clear hfz42_6
                              try clear hfz42_7
                              try clear hfz42_8
                              try clear hfz42_9
                              try clear hx544_0
                              try clear hx545_0
                              try clear hx546_0
                              try clear hx547_0
                              try clear hx548_0
                              try clear hx549_0
                              try clear hx550_0
                              try clear hx551_0
                              try clear p2
                              try clear p5
                              try clear p544
                              try clear p545
                              try clear p546
                              try clear p547
                              try clear p548
                              try clear p549
                              try clear p550
                              try clear p551
                              try clear p6
                              try clear q5
                              try clear q544
                              try clear q545
                              try clear q546
                              try clear q547
                              try clear q548
                              try clear q549
                              try clear q550
                              try clear q551
                              obtain ⟨kq, x86_39, rfl, HA, HJ39, BK538, BK552, HB⟩ := hcut
                              cases kq with
                              | zero => exact absurd HA.out (by simp [post_take.j2])
                              | succ kj39 =>
                                have H := HA.out
                                clear HA
                                simp only [post_take.j2] at H
                                by_cases c44 : x86_39 = true
                                · subst c44
                                  have H1 : (some (0, 0, 0, 0, 0, 0, 0, false, ([] : List (S75)), (⟨#[]⟩ : ByteArray), false)) = some (r1, r2, r3, r4, r5, r6, r7, r8, r9, r10, r11) := by rw [if_pos rfl] at H; exact H
                                  clear H
                                  have H := H1
                                  clear H1
                                  simp only [Option.some.injEq, Prod.mk.injEq] at H
                                  obtain ⟨rfl, rfl, rfl, rfl, rfl, rfl, rfl, rfl, rfl, rfl, rfl⟩ := H
                                  have hnb45 := NB538_552.out
                                  have hnc45 := NB552_538.out
                                  have hcz46_0 : wc.cell? ⟨gb538, 0, none⟩ = some (.int .i64 0) := (blk_cell BK538.out 0).trans rfl
                                  have hcz46_1 : wc.cell? ⟨gb538, 1, none⟩ = some (.int .u64 0) := (blk_cell BK538.out 1).trans rfl
                                  have hcz46_2 : wc.cell? ⟨gb538, 2, none⟩ = some (.int .u64 0) := (blk_cell BK538.out 2).trans rfl
                                  have hcz46_3 : wc.cell? ⟨gb538, 3, none⟩ = some (.int .u64 0) := (blk_cell BK538.out 3).trans rfl
                                  have hcz46_4 : wc.cell? ⟨gb538, 4, none⟩ = some (.int .u64 0) := (blk_cell BK538.out 4).trans rfl
                                  have hcz46_5 : wc.cell? ⟨gb538, 5, none⟩ = some (.int .u64 0) := (blk_cell BK538.out 5).trans rfl
                                  have hcz46_6 : wc.cell? ⟨gb538, 6, none⟩ = some (.int .u64 0) := (blk_cell BK538.out 6).trans rfl
                                  have hcz46_7 : wc.cell? ⟨gb538, 7, none⟩ = some (.bool false) := (blk_cell BK538.out 7).trans rfl
                                  have hcz46_8 : wc.cell? ⟨gb538, 8, none⟩ = some (.slice none 0 0) := (blk_cell BK538.out 8).trans rfl
                                  have hcz46_9 : wc.cell? ⟨gb538, 9, none⟩ = some (.string (⟨#[]⟩ : ByteArray)) := (blk_cell BK538.out 9).trans rfl
                                  have hfz46_0 := blk_frozen BK538.out 0
                                  have hfz46_1 := blk_frozen BK538.out 1
                                  have hfz46_2 := blk_frozen BK538.out 2
                                  have hfz46_3 := blk_frozen BK538.out 3
                                  have hfz46_4 := blk_frozen BK538.out 4
                                  have hfz46_5 := blk_frozen BK538.out 5
                                  have hfz46_6 := blk_frozen BK538.out 6
                                  have hfz46_7 := blk_frozen BK538.out 7
                                  have hfz46_8 := blk_frozen BK538.out 8
                                  have hfz46_9 := blk_frozen BK538.out 9
                                  go_wp2
                                  refine bodyPost_ret (results_ct rfl _ _ gb538 57 #[.int .i64 0, .int .u64 0, .int .u64 0, .int .u64 0, .int .u64 0, .int .u64 0, .int .u64 0, .bool false, .slice none 0 0, .string (⟨#[]⟩ : ByteArray)] (0, 0) _ rfl (by (with_reducible repeat (first | refine blk_drewN ?_ _ | refine blk_drew ?_ | refine blk_alloc ?_ _)); refine blk_put (cs := #[.int .i64 0, .int .u64 0, .int .u64 0, .int .u64 0, .int .u64 0, .int .u64 0, .int .u64 0, .bool false, .slice none 0 0, .string (⟨#[]⟩ : ByteArray)]) ?_ 9 _ rfl; (with_reducible repeat (first | refine blk_drewN ?_ _ | refine blk_drew ?_ | refine blk_alloc ?_ _)); refine blk_put (cs := #[.int .i64 0, .int .u64 0, .int .u64 0, .int .u64 0, .int .u64 0, .int .u64 0, .int .u64 0, .bool false, .slice none 0 0, .string (⟨#[]⟩ : ByteArray)]) ?_ 8 _ rfl; (with_reducible repeat (first | refine blk_drewN ?_ _ | refine blk_drew ?_ | refine blk_alloc ?_ _)); refine blk_put (cs := #[.int .i64 0, .int .u64 0, .int .u64 0, .int .u64 0, .int .u64 0, .int .u64 0, .int .u64 0, .bool false, .slice none 0 0, .string (⟨#[]⟩ : ByteArray)]) ?_ 7 _ rfl; (with_reducible repeat (first | refine blk_drewN ?_ _ | refine blk_drew ?_ | refine blk_alloc ?_ _)); refine blk_put (cs := #[.int .i64 0, .int .u64 0, .int .u64 0, .int .u64 0, .int .u64 0, .int .u64 0, .int .u64 0, .bool false, .slice none 0 0, .string (⟨#[]⟩ : ByteArray)]) ?_ 6 _ rfl; (with_reducible repeat (first | refine blk_drewN ?_ _ | refine blk_drew ?_ | refine blk_alloc ?_ _)); refine blk_put (cs := #[.int .i64 0, .int .u64 0, .int .u64 0, .int .u64 0, .int .u64 0, .int .u64 0, .int .u64 0, .bool false, .slice none 0 0, .string (⟨#[]⟩ : ByteArray)]) ?_ 5 _ rfl; (with_reducible repeat (first | refine blk_drewN ?_ _ | refine blk_drew ?_ | refine blk_alloc ?_ _)); refine blk_put (cs := #[.int .i64 0, .int .u64 0, .int .u64 0, .int .u64 0, .int .u64 0, .int .u64 0, .int .u64 0, .bool false, .slice none 0 0, .string (⟨#[]⟩ : ByteArray)]) ?_ 4 _ rfl; (with_reducible repeat (first | refine blk_drewN ?_ _ | refine blk_drew ?_ | refine blk_alloc ?_ _)); refine blk_put (cs := #[.int .i64 0, .int .u64 0, .int .u64 0, .int .u64 0, .int .u64 0, .int .u64 0, .int .u64 0, .bool false, .slice none 0 0, .string (⟨#[]⟩ : ByteArray)]) ?_ 3 _ rfl; (with_reducible repeat (first | refine blk_drewN ?_ _ | refine blk_drew ?_ | refine blk_alloc ?_ _)); refine blk_put (cs := #[.int .i64 0, .int .u64 0, .int .u64 0, .int .u64 0, .int .u64 0, .int .u64 0, .int .u64 0, .bool false, .slice none 0 0, .string (⟨#[]⟩ : ByteArray)]) ?_ 2 _ rfl; (with_reducible repeat (first | refine blk_drewN ?_ _ | refine blk_drew ?_ | refine blk_alloc ?_ _)); refine blk_put (cs := #[.int .i64 0, .int .u64 0, .int .u64 0, .int .u64 0, .int .u64 0, .int .u64 0, .int .u64 0, .bool false, .slice none 0 0, .string (⟨#[]⟩ : ByteArray)]) ?_ 1 _ rfl; (with_reducible repeat (first | refine blk_drewN ?_ _ | refine blk_drew ?_ | refine blk_alloc ?_ _)); refine blk_put (cs := #[.int .i64 0, .int .u64 0, .int .u64 0, .int .u64 0, .int .u64 0, .int .u64 0, .int .u64 0, .bool false, .slice none 0 0, .string (⟨#[]⟩ : ByteArray)]) ?_ 0 _ rfl; (with_reducible repeat (first | refine blk_drewN ?_ _ | refine blk_drew ?_ | refine blk_alloc ?_ _)); exact BK538.out) Try.underlying57 rfl (by kernel_rfl)) rfl ?_
                                  exact ⟨_, by first | rfl | (simp [errW_none, errW_some] <;> rfl) | (simp [*, errW_none, errW_some] <;> rfl), by first | exact Kd.R_nil _ _ _ _ _ | exact Kd.N_nil _ _ _ _ _ | exact Kd.V_nil _ _ _ _ _ | exact Kd.Q_nil _ _ _ _ _ | exact Kd.S_nil _ _ _ _ _, by repeat (first | (with_reducible first | exact HB.out | apply below_alloc | apply pw_below_drewN | apply below_drew1 | refine below_set ?_ GE538.out | refine below_set ?_ GE552.out) | exact HB.out)⟩
                                · replace c44 := Bool.eq_false_iff.mpr c44
                                  subst c44
                                  have H1 : (post_take.l0 kj39 t557 t556 0 (wrap64 (rd t539 0)) (rd t539 1) (rd t539 2) (rd t539 3) (rd t539 4) (rd t539 5) (rd t539 6) (t553 == 1) ([] : List (S75)) (⟨#[]⟩ : ByteArray)) = some (r1, r2, r3, r4, r5, r6, r7, r8, r9, r10, r11) := by rw [if_neg (show ¬ (false = true) by decide)] at H; exact H
                                  clear H
                                  have H := H1
                                  clear H1
                                  have H' := Aside0.mk H
                                  clear H
                                  go_wp2
                                  go_loopg [0, 89] kj39 (fun kq v0 v89 w' => ∃ (x0_4 : ByteArray) (x89_4 : Int) (x539000_4 : Int) (x539001_4 : Int) (x539002_4 : Int) (x539003_4 : Int) (x539004_4 : Int) (x539005_4 : Int) (x539006_4 : Int) (x539007_4 : Bool) (x539009_4 : ByteArray) (x553008_4 : List (S75)) (u553008 : Value), v0 = .string x0_4 ∧ v89 = .int .u64 x89_4 ∧ Aside0 (post_take.l0 kq x0_4 t556 x89_4 (wrap64 (rd t539 0)) (rd t539 1) (rd t539 2) (rd t539 3) (rd t539 4) (rd t539 5) (rd t539 6) (t553 == 1) x553008_4 (⟨#[]⟩ : ByteArray) = some (r1, r2, r3, r4, r5, r6, r7, r8, r9, r10, r11)) ∧ Aside0 (kq ≤ kj39) ∧ Aside0 (Kd.R k75 75 w' w.heap.size (fun _ => True) u553008 x553008_4) ∧ Aside0 (w'.heap[gb538]? = some (.cells #[.int .i64 x539000_4, .int .u64 x539001_4, .int .u64 x539002_4, .int .u64 x539003_4, .int .u64 x539004_4, .int .u64 x539005_4, .int .u64 x539006_4, .bool x539007_4, (.slice none 0 0), .string x539009_4] 57 (0, 0))) ∧ Aside0 (w'.heap[gb552]? = some (.cells #[.int .i64 (wrap64 (rd t539 0)), .int .u64 (rd t539 1), .int .u64 (rd t539 2), .int .u64 (rd t539 3), .int .u64 (rd t539 4), .int .u64 (rd t539 5), .int .u64 (rd t539 6), .bool (t553 == 1), u553008, .string (⟨#[]⟩ : ByteArray)] 57 (0, 0))) ∧ Aside0 (Below w.heap.size w w'))
                                  case atStart => exact ⟨(t557), (0), (0), (0), (0), (0), (0), (0), (0), (false), ((⟨#[]⟩ : ByteArray)), (([] : List (S75))), (.slice none 0 0), (by first | rfl | (simp; done) | (simp [*]; done)), (by first | rfl | (simp; done) | (simp [*]; done)), H', ⟨Nat.le_refl _⟩, ⟨by first | exact Kd.R_nil _ _ _ _ _ | exact Kd.N_nil _ _ _ _ _ | exact Kd.V_nil _ _ _ _ _ | exact Kd.Q_nil _ _ _ _ _ | exact Kd.S_nil _ _ _ _ _⟩, ⟨by (with_reducible repeat (first | refine blk_drewN ?_ _ | refine blk_drew ?_ | refine blk_alloc ?_ _)); exact BK538.out⟩, ⟨by (with_reducible repeat (first | refine blk_drewN ?_ _ | refine blk_drew ?_ | refine blk_alloc ?_ _)); exact BK552.out⟩, ⟨by repeat (first | (with_reducible first | exact HB.out | apply below_alloc | apply pw_below_drewN | apply below_drew1 | refine below_set ?_ GE538.out | refine below_set ?_ GE552.out) | exact HB.out)⟩⟩
                                  case round =>
                                    clear H'
                                    try clear c1
                                    try clear p2
                                    try clear c3
                                    try clear c4
                                    try clear p5
                                    try clear q5
                                    try clear hx5
                                    try clear qi5
                                    try clear c6
                                    try clear c6b0
                                    try clear c6b1
                                    try clear p6
                                    try clear c7
                                    try clear c7b0
                                    try clear c7b1
                                    try clear c8
                                    try clear c8b0
                                    try clear c8b1
                                    try clear c9
                                    try clear c11
                                    try clear c13
                                    try clear c13b0
                                    try clear c13b1
                                    try clear c14
                                    try clear c14b0
                                    try clear c14b1
                                    try clear c15
                                    try clear c15b0
                                    try clear c15b1
                                    try clear c16
                                    try clear c16b0
                                    try clear c16b1
                                    try clear c17
                                    try clear c17b0
                                    try clear c17b1
                                    try clear c18
                                    try clear c18b0
                                    try clear c18b1
                                    try clear c19
                                    try clear c19b0
                                    try clear c19b1
                                    try clear c35
                                    try clear c35b0
                                    try clear c35b1
                                    try clear c36
                                    try clear c37
                                    try clear c41
                                    try clear c43
                                    try clear c43b0
                                    try clear c43b1
                                    try clear c44
                                    try clear c45
                                    try clear hcz12_0
                                    try clear hcz12_1
                                    try clear hcz12_2
                                    try clear hcz12_3
                                    try clear hcz12_4
                                    try clear hcz12_5
                                    try clear hcz12_6
                                    try clear hcz12_7
                                    try clear hcz12_8
                                    try clear hcz12_9
                                    try clear hcz38_0
                                    try clear hcz38_1
                                    try clear hcz38_2
                                    try clear hcz38_3
                                    try clear hcz38_4
                                    try clear hcz38_5
                                    try clear hcz38_6
                                    try clear hcz38_7
                                    try clear hcz38_8
                                    try clear hcz38_9
                                    try clear hcz42_0
                                    try clear hcz42_1
                                    try clear hcz42_2
                                    try clear hcz42_3
                                    try clear hcz42_4
                                    try clear hcz42_5
                                    try clear hcz42_6
                                    try clear hcz42_7
                                    try clear hcz42_8
                                    try clear hcz42_9
                                    try clear hcz46_0
                                    try clear hcz46_1
                                    try clear hcz46_2
                                    try clear hcz46_3
                                    try clear hcz46_4
                                    try clear hcz46_5
                                    try clear hcz46_6
                                    try clear hcz46_7
                                    try clear hcz46_8
                                    try clear hcz46_9
                                    try clear hfz12_0
                                    try clear hfz12_1
                                    try clear hfz12_2
                                    try clear hfz12_3
                                    try clear hfz12_4
                                    try clear hfz12_5
                                    try clear hfz12_6
                                    try clear hfz12_7
                                    try clear hfz12_8
                                    try clear hfz12_9
                                    try clear hfz38_0
                                    try clear hfz38_1
                                    try clear hfz38_2
                                    try clear hfz38_3
                                    try clear hfz38_4
                                    try clear hfz38_5
                                    try clear hfz38_6
                                    try clear hfz38_7
                                    try clear hfz38_8
                                    try clear hfz38_9
                                    try clear hfz42_0
                                    try clear hfz42_1
                                    try clear hfz42_2
                                    try clear hfz42_3
                                    try clear hfz42_4
                                    try clear hfz42_5
                                    try clear hfz42_6
                                    try clear hfz42_7
                                    try clear hfz42_8
                                    try clear hfz42_9
                                    try clear hfz46_0
                                    try clear hfz46_1
                                    try clear hfz46_2
                                    try clear hfz46_3
                                    try clear hfz46_4
                                    try clear hfz46_5
                                    try clear hfz46_6
                                    try clear hfz46_7
                                    try clear hfz46_8
                                    try clear hfz46_9
                                    try clear hx544_0
                                    try clear hx545_0
                                    try clear hx546_0
                                    try clear hx547_0
                                    try clear hx548_0
                                    try clear hx549_0
                                    try clear hx550_0
                                    try clear hx551_0
                                    try clear p2
                                    try clear p5
                                    try clear p544
                                    try clear p545
                                    try clear p546
                                    try clear p547
                                    try clear p548
                                    try clear p549
                                    try clear p550
                                    try clear p551
                                    try clear p6
                                    try clear q5
                                    try clear q544
                                    try clear q545
                                    try clear q546
                                    try clear q547
                                    try clear q548
                                    try clear q549
                                    try clear q550
                                    try clear q551
                                    obtain ⟨x0_4, x89_4, x539000_4, x539001_4, x539002_4, x539003_4, x539004_4, x539005_4, x539006_4, x539007_4, x539009_4, x553008_4, u553008, rfl, rfl, HA, HK4, HO_553008, BK538, BK552, HB⟩ := hrel
                                    cases gk with
                                    | zero => exact absurd HA.out (by simp [post_take.l0])
                                    | succ k4 =>
                                      have H := HA.out
                                      clear HA
                                      simp only [post_take.l0] at H
                                      by_cases c47 : x89_4 < t556
                                      · rw [if_pos c47] at H
                                        have c47b0 : decide (x89_4 < t556) = true := decide_eq_true c47
                                        clear c47
                                        replace H := Option.bind_eq_some_iff.mp H
                                        obtain ⟨⟨t563, t564, t565⟩, A480, H⟩ := H
                                        replace H : ((pack_TakeText.f k4 t564).bind fun bt566 => (if t565 = 0 then (if bt566.2.2 = 0 then (if x553008_4.length < 5864062014805 then (post_take.l0 k4 bt566.2.1 t556 (IntKind.u64.wrap (x89_4 + 1)) (wrap64 (rd t539 0)) (rd t539 1) (rd t539 2) (rd t539 3) (rd t539 4) (rd t539 5) (rd t539 6) (t553 == 1) (x553008_4 ++ [(⟨t563, bt566.1⟩ : S75)]) (⟨#[]⟩ : ByteArray)) else (none)) else (some (0, 0, 0, 0, 0, 0, 0, false, ([] : List (S75)), (⟨#[]⟩ : ByteArray), false))) else (some (0, 0, 0, 0, 0, 0, 0, false, ([] : List (S75)), (⟨#[]⟩ : ByteArray), false)))) = some (r1, r2, r3, r4, r5, r6, r7, r8, r9, r10, r11) := H
                                        have A48 := Aside0.mk A480
                                        clear A480
                                        replace H := Option.bind_eq_some_iff.mp H
                                        obtain ⟨⟨t566, t567, t568⟩, A490, H⟩ := H
                                        replace H : (if t565 = 0 then (if t568 = 0 then (if x553008_4.length < 5864062014805 then (post_take.l0 k4 t567 t556 (IntKind.u64.wrap (x89_4 + 1)) (wrap64 (rd t539 0)) (rd t539 1) (rd t539 2) (rd t539 3) (rd t539 4) (rd t539 5) (rd t539 6) (t553 == 1) (x553008_4 ++ [(⟨t563, t566⟩ : S75)]) (⟨#[]⟩ : ByteArray)) else (none)) else (some (0, 0, 0, 0, 0, 0, 0, false, ([] : List (S75)), (⟨#[]⟩ : ByteArray), false))) else (some (0, 0, 0, 0, 0, 0, 0, false, ([] : List (S75)), (⟨#[]⟩ : ByteArray), false))) = some (r1, r2, r3, r4, r5, r6, r7, r8, r9, r10, r11) := H
                                        have A49 := Aside0.mk A490
                                        clear A490
                                        by_cases c50 : t565 = 0
                                        · rw [if_pos c50] at H
                                          have c50b0 : (t565 == 0) = true := beq_iff_eq.mpr c50
                                          have c50b1 : (t565 != 0) = false := bne_eq_false_iff_eq.mpr c50
                                          clear c50
                                          by_cases c51 : t568 = 0
                                          · rw [if_pos c51] at H
                                            have c51b0 : (t568 == 0) = true := beq_iff_eq.mpr c51
                                            have c51b1 : (t568 != 0) = false := bne_eq_false_iff_eq.mpr c51
                                            clear c51
                                            by_cases c52 : x553008_4.length < 5864062014805
                                            · rw [if_pos c52] at H
                                              have LMc52 := Aside0.mk c52
                                              clear c52
                                              obtain ⟨y569, hy569⟩ : ∃ y_ : List (S75), y_ = (x553008_4 ++ [(⟨t563, t566⟩ : S75)]) := ⟨_, rfl⟩
                                              replace H : (post_take.l0 k4 t567 t556 (IntKind.u64.wrap (x89_4 + 1)) (wrap64 (rd t539 0)) (rd t539 1) (rd t539 2) (rd t539 3) (rd t539 4) (rd t539 5) (rd t539 6) (t553 == 1) y569 (⟨#[]⟩ : ByteArray)) = some (r1, r2, r3, r4, r5, r6, r7, r8, r9, r10, r11) := by first | (rw [hy569]; with_reducible exact H) | (have H2_ := (Option.bind_some _ _).symm.trans H; rw [hy569]; with_reducible exact H2_) | (have H2_ := (Option.bind_some _ _).symm.trans H; with_reducible exact H2_) | with_reducible exact H | (rw [hy569]; exact H) | exact H
                                              have Ny569 := Aside0.mk hy569
                                              clear hy569
                                              have H' := Aside0.mk H
                                              clear H
                                              go_wp2_with (first | ((with_reducible refine gate_callee (f := 92) rfl ?_); refine goesL_ (some 93) rfl rfl Try.func92 (by kernel_rfl) rfl #[.string x0_4] rfl (by (try simp only [List.map_toArray, List.map_cons, List.map_nil]); first | done | rfl | (simp only [List.length_drop, List.length_take]; rfl)) ?_; (with_reducible refine (pack_TakeNum.calls k4 x0_4 t563 t564 t565 _ A48.out).mono ?_); rintro e w' ⟨rfl, ⟨nd, rfl⟩⟩; refine ⟨_, rfl, ?_⟩; (try (rw [drewN_self wr]; generalize hq_ : World.drewN wr _ = wr; have n0_ : Aside0 (Kd.R k75 75 wr w.heap.size (fun _ => True) u553008 x553008_4) := ⟨by rw [← hq_]; exact (by (with_reducible repeat (first | apply Kd.R_alloc | apply Kd.R_drewN | apply Kd.R_drew)); exact HO_553008.out)⟩; have n1_ : Aside0 (wr.heap[gb538]? = some (.cells #[.int .i64 x539000_4, .int .u64 x539001_4, .int .u64 x539002_4, .int .u64 x539003_4, .int .u64 x539004_4, .int .u64 x539005_4, .int .u64 x539006_4, .bool x539007_4, .slice none 0 0, .string x539009_4] 57 (0, 0))) := ⟨by rw [← hq_]; exact (by (with_reducible repeat (first | refine blk_drewN ?_ _ | refine blk_drew ?_ | refine blk_alloc ?_ _)); exact BK538.out)⟩; have n2_ : Aside0 (wr.heap[gb552]? = some (.cells #[.int .i64 (wrap64 (rd t539 0)), .int .u64 (rd t539 1), .int .u64 (rd t539 2), .int .u64 (rd t539 3), .int .u64 (rd t539 4), .int .u64 (rd t539 5), .int .u64 (rd t539 6), .bool (t553 == 1), u553008, .string (⟨#[]⟩ : ByteArray)] 57 (0, 0))) := ⟨by rw [← hq_]; exact (by (with_reducible repeat (first | refine blk_drewN ?_ _ | refine blk_drew ?_ | refine blk_alloc ?_ _)); exact BK552.out)⟩; have n3_ : Aside0 (Below w.heap.size w wr) := ⟨by rw [← hq_]; exact (by repeat (first | (with_reducible first | exact HB.out | apply below_alloc | apply pw_below_drewN | apply below_drew1 | refine below_set ?_ GE538.out | refine below_set ?_ GE552.out) | exact HB.out))⟩; clear HO_553008 BK538 BK552 HB hq_; have HO_553008 := n0_; have BK538 := n1_; have BK552 := n2_; have HB := n3_; clear n0_ n1_ n2_ n3_))) | ((with_reducible refine gate_callee (f := 93) rfl ?_); refine goesL_ (some 99) rfl rfl Try.func93 (by kernel_rfl) rfl #[.string t564] rfl (by (try simp only [List.map_toArray, List.map_cons, List.map_nil]); first | done | rfl | (simp only [List.length_drop, List.length_take]; rfl)) ?_; (with_reducible refine (pack_TakeText.calls k4 t564 t566 t567 t568 _ A49.out).mono ?_); rintro e w' ⟨rfl, ⟨nd, rfl⟩⟩; refine ⟨_, rfl, ?_⟩; (try (rw [drewN_self wr]; generalize hq_ : World.drewN wr _ = wr; have n0_ : Aside0 (Kd.R k75 75 wr w.heap.size (fun _ => True) u553008 x553008_4) := ⟨by rw [← hq_]; exact (by (with_reducible repeat (first | apply Kd.R_alloc | apply Kd.R_drewN | apply Kd.R_drew)); exact HO_553008.out)⟩; have n1_ : Aside0 (wr.heap[gb538]? = some (.cells #[.int .i64 x539000_4, .int .u64 x539001_4, .int .u64 x539002_4, .int .u64 x539003_4, .int .u64 x539004_4, .int .u64 x539005_4, .int .u64 x539006_4, .bool x539007_4, .slice none 0 0, .string x539009_4] 57 (0, 0))) := ⟨by rw [← hq_]; exact (by (with_reducible repeat (first | refine blk_drewN ?_ _ | refine blk_drew ?_ | refine blk_alloc ?_ _)); exact BK538.out)⟩; have n2_ : Aside0 (wr.heap[gb552]? = some (.cells #[.int .i64 (wrap64 (rd t539 0)), .int .u64 (rd t539 1), .int .u64 (rd t539 2), .int .u64 (rd t539 3), .int .u64 (rd t539 4), .int .u64 (rd t539 5), .int .u64 (rd t539 6), .bool (t553 == 1), u553008, .string (⟨#[]⟩ : ByteArray)] 57 (0, 0))) := ⟨by rw [← hq_]; exact (by (with_reducible repeat (first | refine blk_drewN ?_ _ | refine blk_drew ?_ | refine blk_alloc ?_ _)); exact BK552.out)⟩; have n3_ : Aside0 (Below w.heap.size w wr) := ⟨by rw [← hq_]; exact (by repeat (first | (with_reducible first | exact HB.out | apply below_alloc | apply pw_below_drewN | apply below_drew1 | refine below_set ?_ GE538.out | refine below_set ?_ GE552.out) | exact HB.out))⟩; clear HO_553008 BK538 BK552 HB hq_; have HO_553008 := n0_; have BK538 := n1_; have BK552 := n2_; have HB := n3_; clear n0_ n1_ n2_ n3_)); have hnb53 := NB552_538.out; have hnc53 := NB538_552.out; have hcz54_0 : wr.cell? ⟨gb552, 0, none⟩ = some (.int .i64 (wrap64 (rd t539 0))) := (blk_cell BK552.out 0).trans rfl; have hcz54_1 : wr.cell? ⟨gb552, 1, none⟩ = some (.int .u64 (rd t539 1)) := (blk_cell BK552.out 1).trans rfl; have hcz54_2 : wr.cell? ⟨gb552, 2, none⟩ = some (.int .u64 (rd t539 2)) := (blk_cell BK552.out 2).trans rfl; have hcz54_3 : wr.cell? ⟨gb552, 3, none⟩ = some (.int .u64 (rd t539 3)) := (blk_cell BK552.out 3).trans rfl; have hcz54_4 : wr.cell? ⟨gb552, 4, none⟩ = some (.int .u64 (rd t539 4)) := (blk_cell BK552.out 4).trans rfl; have hcz54_5 : wr.cell? ⟨gb552, 5, none⟩ = some (.int .u64 (rd t539 5)) := (blk_cell BK552.out 5).trans rfl; have hcz54_6 : wr.cell? ⟨gb552, 6, none⟩ = some (.int .u64 (rd t539 6)) := (blk_cell BK552.out 6).trans rfl; have hcz54_7 : wr.cell? ⟨gb552, 7, none⟩ = some (.bool (t553 == 1)) := (blk_cell BK552.out 7).trans rfl; have hcz54_8 : wr.cell? ⟨gb552, 8, none⟩ = some (u553008) := (blk_cell BK552.out 8).trans rfl; have hcz54_9 : wr.cell? ⟨gb552, 9, none⟩ = some (.string (⟨#[]⟩ : ByteArray)) := (blk_cell BK552.out 9).trans rfl; have hfz54_0 := blk_frozen BK552.out 0; have hfz54_1 := blk_frozen BK552.out 1; have hfz54_2 := blk_frozen BK552.out 2; have hfz54_3 := blk_frozen BK552.out 3; have hfz54_4 := blk_frozen BK552.out 4; have hfz54_5 := blk_frozen BK552.out 5; have hfz54_6 := blk_frozen BK552.out 6; have hfz54_7 := blk_frozen BK552.out 7; have hfz54_8 := blk_frozen BK552.out 8; have hfz54_9 := blk_frozen BK552.out 9) | ((with_reducible refine gate_builtin (b := .append) (xs := #[.tmp 111, .tmp 115]) rfl ?_); (try (refine gate_guard (by rfl) ?_; dsimp only)); at_builtin; refine Kd.R_append k75 (w0 := w) w.heap.size rfl (.tmp 111) (.tmp 115) 26 75 (.agg #[(.int .u64 0), (.string ⟨#[]⟩)]) 24 rfl Try.underlying26 info75 rfl (by decide) (by omega) u553008 x553008_4 (⟨t563, t566⟩ : S75) [.int .u64 t563, .string t566] (fun _ => True) (fun _ => False) rfl rfl ?aP (fun _ hk => hk.elim) ?aF ?aO ?aB ?aS ?aL ?_; (case aP => exact k75_mkM _ _ _ (⟨t563, t566⟩ : S75)); (case aB => exact (by repeat (first | (with_reducible first | exact HB.out | apply below_alloc | apply pw_below_drewN | apply below_drew1 | refine below_set ?_ GE538.out | refine below_set ?_ GE552.out) | exact HB.out))); (case aF => exact (fun _ _ => trivial)); (case aO => exact (by (with_reducible repeat (first | apply Kd.R_alloc | apply Kd.R_drewN | apply Kd.R_drew)); exact HO_553008.out)); (case aS => exact (below_size (by repeat (first | (with_reducible first | exact HB.out | apply below_alloc | apply pw_below_drewN | apply below_drew1 | refine below_set ?_ GE538.out | refine below_set ?_ GE552.out) | exact HB.out)))); (case aL => have := LMc52.out; omega); intro v570 w55 ho hb hg hat; rw [← Ny569.out] at ho; have n0_ := Aside0.mk (blk_grown (g := gb538) (o := .cells #[.int .i64 x539000_4, .int .u64 x539001_4, .int .u64 x539002_4, .int .u64 x539003_4, .int .u64 x539004_4, .int .u64 x539005_4, .int .u64 x539006_4, .bool x539007_4, .slice none 0 0, .string x539009_4] 57 (0, 0)) (by (with_reducible repeat (first | refine blk_drewN ?_ _ | refine blk_drew ?_ | refine blk_alloc ?_ _)); exact BK538.out) hg (Kd.R_ne HO_553008.out BK538.out (by decide))); have n1_ := Aside0.mk (blk_grown (g := gb552) (o := .cells #[.int .i64 (wrap64 (rd t539 0)), .int .u64 (rd t539 1), .int .u64 (rd t539 2), .int .u64 (rd t539 3), .int .u64 (rd t539 4), .int .u64 (rd t539 5), .int .u64 (rd t539 6), .bool (t553 == 1), u553008, .string (⟨#[]⟩ : ByteArray)] 57 (0, 0)) (by (with_reducible repeat (first | refine blk_drewN ?_ _ | refine blk_drew ?_ | refine blk_alloc ?_ _)); exact BK552.out) hg (Kd.R_ne HO_553008.out BK552.out (by decide))); have n2_ := Aside0.mk (hb); have n3_ := Aside0.mk (ho); clear BK538; clear BK552; clear HB; clear HO_553008; have BK538 := n0_; have BK552 := n1_; have HB := n2_; have HO571 := n3_; clear n0_ n1_ n2_ n3_; clear ho hb hg hat; obtain ⟨Ao56, co56, eo56⟩ := Kd.R_slice HO571.out; subst eo56; have hcz57_0 : w55.cell? ⟨gb552, 0, none⟩ = some (.int .i64 (wrap64 (rd t539 0))) := (blk_cell BK552.out 0).trans rfl; have hcz57_1 : w55.cell? ⟨gb552, 1, none⟩ = some (.int .u64 (rd t539 1)) := (blk_cell BK552.out 1).trans rfl; have hcz57_2 : w55.cell? ⟨gb552, 2, none⟩ = some (.int .u64 (rd t539 2)) := (blk_cell BK552.out 2).trans rfl; have hcz57_3 : w55.cell? ⟨gb552, 3, none⟩ = some (.int .u64 (rd t539 3)) := (blk_cell BK552.out 3).trans rfl; have hcz57_4 : w55.cell? ⟨gb552, 4, none⟩ = some (.int .u64 (rd t539 4)) := (blk_cell BK552.out 4).trans rfl; have hcz57_5 : w55.cell? ⟨gb552, 5, none⟩ = some (.int .u64 (rd t539 5)) := (blk_cell BK552.out 5).trans rfl; have hcz57_6 : w55.cell? ⟨gb552, 6, none⟩ = some (.int .u64 (rd t539 6)) := (blk_cell BK552.out 6).trans rfl; have hcz57_7 : w55.cell? ⟨gb552, 7, none⟩ = some (.bool (t553 == 1)) := (blk_cell BK552.out 7).trans rfl; have hcz57_8 : w55.cell? ⟨gb552, 8, none⟩ = some (u553008) := (blk_cell BK552.out 8).trans rfl; have hcz57_9 : w55.cell? ⟨gb552, 9, none⟩ = some (.string (⟨#[]⟩ : ByteArray)) := (blk_cell BK552.out 9).trans rfl; have hfz57_0 := blk_frozen BK552.out 0; have hfz57_1 := blk_frozen BK552.out 1; have hfz57_2 := blk_frozen BK552.out 2; have hfz57_3 := blk_frozen BK552.out 3; have hfz57_4 := blk_frozen BK552.out 4; have hfz57_5 := blk_frozen BK552.out 5; have hfz57_6 := blk_frozen BK552.out 6; have hfz57_7 := blk_frozen BK552.out 7; have hfz57_8 := blk_frozen BK552.out 8; have hfz57_9 := blk_frozen BK552.out 9))
                                              go_roundg k4
                                              case measure => have := HJ2.out; have := HJ20.out; have := HJ39.out; have := HK4.out; omega
                                              case rel => exact ⟨(t567), (IntKind.u64.wrap (x89_4 + 1)), (x539000_4), (x539001_4), (x539002_4), (x539003_4), (x539004_4), (x539005_4), (x539006_4), (x539007_4), (x539009_4), (y569), (.slice Ao56 y569.length co56), (by first | rfl | (simp; done) | (simp [*]; done)), (by first | rfl | (simp; done) | (simp [*]; done)), H', ⟨by have := HJ2.out; have := HJ20.out; have := HJ39.out; have := HK4.out; omega⟩, ⟨by (with_reducible repeat (first | apply Kd.R_alloc | apply Kd.R_drewN | apply Kd.R_drew)); exact Kd.R_mono (Kd.R_far (p := ⟨gb552, 8, none⟩) (Kd.R_types HO571.out BK552.out (by decide)) (fun _ hk => hk.2) (.slice Ao56 y569.length co56)) (fun _ hk => trivial)⟩, ⟨by (with_reducible repeat (first | refine blk_drewN ?_ _ | refine blk_drew ?_ | refine blk_alloc ?_ _)); refine blk_far ?_ NB538_552.out _; (with_reducible repeat (first | refine blk_drewN ?_ _ | refine blk_drew ?_ | refine blk_alloc ?_ _)); exact BK538.out⟩, ⟨by (with_reducible repeat (first | refine blk_drewN ?_ _ | refine blk_drew ?_ | refine blk_alloc ?_ _)); refine blk_put (cs := #[.int .i64 (wrap64 (rd t539 0)), .int .u64 (rd t539 1), .int .u64 (rd t539 2), .int .u64 (rd t539 3), .int .u64 (rd t539 4), .int .u64 (rd t539 5), .int .u64 (rd t539 6), .bool (t553 == 1), u553008, .string (⟨#[]⟩ : ByteArray)]) ?_ 8 _ rfl; (with_reducible repeat (first | refine blk_drewN ?_ _ | refine blk_drew ?_ | refine blk_alloc ?_ _)); exact BK552.out⟩, ⟨by repeat (first | (with_reducible first | exact HB.out | apply below_alloc | apply pw_below_drewN | apply below_drew1 | refine below_set ?_ GE538.out | refine below_set ?_ GE552.out) | exact HB.out)⟩⟩
                                            · rw [if_neg c52] at H
                                              exact absurd H (by simp)
                                          · rw [if_neg c51] at H
                                            have c51b0 : (t568 == 0) = false := beq_eq_false_iff_ne.mpr c51
                                            have c51b1 : (t568 != 0) = true := bne_iff_ne.mpr c51
                                            simp only [Option.some.injEq, Prod.mk.injEq] at H
                                            obtain ⟨rfl, rfl, rfl, rfl, rfl, rfl, rfl, rfl, rfl, rfl, rfl⟩ := H
                                            go_wp2_with (first | ((with_reducible refine gate_callee (f := 92) rfl ?_); refine goesL_ (some 93) rfl rfl Try.func92 (by kernel_rfl) rfl #[.string x0_4] rfl (by (try simp only [List.map_toArray, List.map_cons, List.map_nil]); first | done | rfl | (simp only [List.length_drop, List.length_take]; rfl)) ?_; (with_reducible refine (pack_TakeNum.calls k4 x0_4 t563 t564 t565 _ A48.out).mono ?_); rintro e w' ⟨rfl, ⟨nd, rfl⟩⟩; refine ⟨_, rfl, ?_⟩; (try (rw [drewN_self wr]; generalize hq_ : World.drewN wr _ = wr; have n0_ : Aside0 (Kd.R k75 75 wr w.heap.size (fun _ => True) u553008 x553008_4) := ⟨by rw [← hq_]; exact (by (with_reducible repeat (first | apply Kd.R_alloc | apply Kd.R_drewN | apply Kd.R_drew)); exact HO_553008.out)⟩; have n1_ : Aside0 (wr.heap[gb538]? = some (.cells #[.int .i64 x539000_4, .int .u64 x539001_4, .int .u64 x539002_4, .int .u64 x539003_4, .int .u64 x539004_4, .int .u64 x539005_4, .int .u64 x539006_4, .bool x539007_4, .slice none 0 0, .string x539009_4] 57 (0, 0))) := ⟨by rw [← hq_]; exact (by (with_reducible repeat (first | refine blk_drewN ?_ _ | refine blk_drew ?_ | refine blk_alloc ?_ _)); exact BK538.out)⟩; have n2_ : Aside0 (wr.heap[gb552]? = some (.cells #[.int .i64 (wrap64 (rd t539 0)), .int .u64 (rd t539 1), .int .u64 (rd t539 2), .int .u64 (rd t539 3), .int .u64 (rd t539 4), .int .u64 (rd t539 5), .int .u64 (rd t539 6), .bool (t553 == 1), u553008, .string (⟨#[]⟩ : ByteArray)] 57 (0, 0))) := ⟨by rw [← hq_]; exact (by (with_reducible repeat (first | refine blk_drewN ?_ _ | refine blk_drew ?_ | refine blk_alloc ?_ _)); exact BK552.out)⟩; have n3_ : Aside0 (Below w.heap.size w wr) := ⟨by rw [← hq_]; exact (by repeat (first | (with_reducible first | exact HB.out | apply below_alloc | apply pw_below_drewN | apply below_drew1 | refine below_set ?_ GE538.out | refine below_set ?_ GE552.out) | exact HB.out))⟩; clear HO_553008 BK538 BK552 HB hq_; have HO_553008 := n0_; have BK538 := n1_; have BK552 := n2_; have HB := n3_; clear n0_ n1_ n2_ n3_))) | ((with_reducible refine gate_callee (f := 93) rfl ?_); refine goesL_ (some 99) rfl rfl Try.func93 (by kernel_rfl) rfl #[.string t564] rfl (by (try simp only [List.map_toArray, List.map_cons, List.map_nil]); first | done | rfl | (simp only [List.length_drop, List.length_take]; rfl)) ?_; (with_reducible refine (pack_TakeText.calls k4 t564 t566 t567 t568 _ A49.out).mono ?_); rintro e w' ⟨rfl, ⟨nd, rfl⟩⟩; refine ⟨_, rfl, ?_⟩; (try (rw [drewN_self wr]; generalize hq_ : World.drewN wr _ = wr; have n0_ : Aside0 (Kd.R k75 75 wr w.heap.size (fun _ => True) u553008 x553008_4) := ⟨by rw [← hq_]; exact (by (with_reducible repeat (first | apply Kd.R_alloc | apply Kd.R_drewN | apply Kd.R_drew)); exact HO_553008.out)⟩; have n1_ : Aside0 (wr.heap[gb538]? = some (.cells #[.int .i64 x539000_4, .int .u64 x539001_4, .int .u64 x539002_4, .int .u64 x539003_4, .int .u64 x539004_4, .int .u64 x539005_4, .int .u64 x539006_4, .bool x539007_4, .slice none 0 0, .string x539009_4] 57 (0, 0))) := ⟨by rw [← hq_]; exact (by (with_reducible repeat (first | refine blk_drewN ?_ _ | refine blk_drew ?_ | refine blk_alloc ?_ _)); exact BK538.out)⟩; have n2_ : Aside0 (wr.heap[gb552]? = some (.cells #[.int .i64 (wrap64 (rd t539 0)), .int .u64 (rd t539 1), .int .u64 (rd t539 2), .int .u64 (rd t539 3), .int .u64 (rd t539 4), .int .u64 (rd t539 5), .int .u64 (rd t539 6), .bool (t553 == 1), u553008, .string (⟨#[]⟩ : ByteArray)] 57 (0, 0))) := ⟨by rw [← hq_]; exact (by (with_reducible repeat (first | refine blk_drewN ?_ _ | refine blk_drew ?_ | refine blk_alloc ?_ _)); exact BK552.out)⟩; have n3_ : Aside0 (Below w.heap.size w wr) := ⟨by rw [← hq_]; exact (by repeat (first | (with_reducible first | exact HB.out | apply below_alloc | apply pw_below_drewN | apply below_drew1 | refine below_set ?_ GE538.out | refine below_set ?_ GE552.out) | exact HB.out))⟩; clear HO_553008 BK538 BK552 HB hq_; have HO_553008 := n0_; have BK538 := n1_; have BK552 := n2_; have HB := n3_; clear n0_ n1_ n2_ n3_)); have hnb58 := NB538_552.out; have hnc58 := NB552_538.out; have hcz59_0 : wr.cell? ⟨gb538, 0, none⟩ = some (.int .i64 x539000_4) := (blk_cell BK538.out 0).trans rfl; have hcz59_1 : wr.cell? ⟨gb538, 1, none⟩ = some (.int .u64 x539001_4) := (blk_cell BK538.out 1).trans rfl; have hcz59_2 : wr.cell? ⟨gb538, 2, none⟩ = some (.int .u64 x539002_4) := (blk_cell BK538.out 2).trans rfl; have hcz59_3 : wr.cell? ⟨gb538, 3, none⟩ = some (.int .u64 x539003_4) := (blk_cell BK538.out 3).trans rfl; have hcz59_4 : wr.cell? ⟨gb538, 4, none⟩ = some (.int .u64 x539004_4) := (blk_cell BK538.out 4).trans rfl; have hcz59_5 : wr.cell? ⟨gb538, 5, none⟩ = some (.int .u64 x539005_4) := (blk_cell BK538.out 5).trans rfl; have hcz59_6 : wr.cell? ⟨gb538, 6, none⟩ = some (.int .u64 x539006_4) := (blk_cell BK538.out 6).trans rfl; have hcz59_7 : wr.cell? ⟨gb538, 7, none⟩ = some (.bool x539007_4) := (blk_cell BK538.out 7).trans rfl; have hcz59_8 : wr.cell? ⟨gb538, 8, none⟩ = some (.slice none 0 0) := (blk_cell BK538.out 8).trans rfl; have hcz59_9 : wr.cell? ⟨gb538, 9, none⟩ = some (.string x539009_4) := (blk_cell BK538.out 9).trans rfl; have hfz59_0 := blk_frozen BK538.out 0; have hfz59_1 := blk_frozen BK538.out 1; have hfz59_2 := blk_frozen BK538.out 2; have hfz59_3 := blk_frozen BK538.out 3; have hfz59_4 := blk_frozen BK538.out 4; have hfz59_5 := blk_frozen BK538.out 5; have hfz59_6 := blk_frozen BK538.out 6; have hfz59_7 := blk_frozen BK538.out 7; have hfz59_8 := blk_frozen BK538.out 8; have hfz59_9 := blk_frozen BK538.out 9))
                                            refine bodyPost_ret (results_ct rfl _ _ gb538 57 #[.int .i64 0, .int .u64 0, .int .u64 0, .int .u64 0, .int .u64 0, .int .u64 0, .int .u64 0, .bool false, .slice none 0 0, .string (⟨#[]⟩ : ByteArray)] (0, 0) _ rfl (by (with_reducible repeat (first | refine blk_drewN ?_ _ | refine blk_drew ?_ | refine blk_alloc ?_ _)); refine blk_put (cs := #[.int .i64 0, .int .u64 0, .int .u64 0, .int .u64 0, .int .u64 0, .int .u64 0, .int .u64 0, .bool false, .slice none 0 0, .string x539009_4]) ?_ 9 _ rfl; (with_reducible repeat (first | refine blk_drewN ?_ _ | refine blk_drew ?_ | refine blk_alloc ?_ _)); refine blk_put (cs := #[.int .i64 0, .int .u64 0, .int .u64 0, .int .u64 0, .int .u64 0, .int .u64 0, .int .u64 0, .bool false, .slice none 0 0, .string x539009_4]) ?_ 8 _ rfl; (with_reducible repeat (first | refine blk_drewN ?_ _ | refine blk_drew ?_ | refine blk_alloc ?_ _)); refine blk_put (cs := #[.int .i64 0, .int .u64 0, .int .u64 0, .int .u64 0, .int .u64 0, .int .u64 0, .int .u64 0, .bool x539007_4, .slice none 0 0, .string x539009_4]) ?_ 7 _ rfl; (with_reducible repeat (first | refine blk_drewN ?_ _ | refine blk_drew ?_ | refine blk_alloc ?_ _)); refine blk_put (cs := #[.int .i64 0, .int .u64 0, .int .u64 0, .int .u64 0, .int .u64 0, .int .u64 0, .int .u64 x539006_4, .bool x539007_4, .slice none 0 0, .string x539009_4]) ?_ 6 _ rfl; (with_reducible repeat (first | refine blk_drewN ?_ _ | refine blk_drew ?_ | refine blk_alloc ?_ _)); refine blk_put (cs := #[.int .i64 0, .int .u64 0, .int .u64 0, .int .u64 0, .int .u64 0, .int .u64 x539005_4, .int .u64 x539006_4, .bool x539007_4, .slice none 0 0, .string x539009_4]) ?_ 5 _ rfl; (with_reducible repeat (first | refine blk_drewN ?_ _ | refine blk_drew ?_ | refine blk_alloc ?_ _)); refine blk_put (cs := #[.int .i64 0, .int .u64 0, .int .u64 0, .int .u64 0, .int .u64 x539004_4, .int .u64 x539005_4, .int .u64 x539006_4, .bool x539007_4, .slice none 0 0, .string x539009_4]) ?_ 4 _ rfl; (with_reducible repeat (first | refine blk_drewN ?_ _ | refine blk_drew ?_ | refine blk_alloc ?_ _)); refine blk_put (cs := #[.int .i64 0, .int .u64 0, .int .u64 0, .int .u64 x539003_4, .int .u64 x539004_4, .int .u64 x539005_4, .int .u64 x539006_4, .bool x539007_4, .slice none 0 0, .string x539009_4]) ?_ 3 _ rfl; (with_reducible repeat (first | refine blk_drewN ?_ _ | refine blk_drew ?_ | refine blk_alloc ?_ _)); refine blk_put (cs := #[.int .i64 0, .int .u64 0, .int .u64 x539002_4, .int .u64 x539003_4, .int .u64 x539004_4, .int .u64 x539005_4, .int .u64 x539006_4, .bool x539007_4, .slice none 0 0, .string x539009_4]) ?_ 2 _ rfl; (with_reducible repeat (first | refine blk_drewN ?_ _ | refine blk_drew ?_ | refine blk_alloc ?_ _)); refine blk_put (cs := #[.int .i64 0, .int .u64 x539001_4, .int .u64 x539002_4, .int .u64 x539003_4, .int .u64 x539004_4, .int .u64 x539005_4, .int .u64 x539006_4, .bool x539007_4, .slice none 0 0, .string x539009_4]) ?_ 1 _ rfl; (with_reducible repeat (first | refine blk_drewN ?_ _ | refine blk_drew ?_ | refine blk_alloc ?_ _)); refine blk_put (cs := #[.int .i64 x539000_4, .int .u64 x539001_4, .int .u64 x539002_4, .int .u64 x539003_4, .int .u64 x539004_4, .int .u64 x539005_4, .int .u64 x539006_4, .bool x539007_4, .slice none 0 0, .string x539009_4]) ?_ 0 _ rfl; (with_reducible repeat (first | refine blk_drewN ?_ _ | refine blk_drew ?_ | refine blk_alloc ?_ _)); exact BK538.out) Try.underlying57 rfl (by kernel_rfl)) rfl ?_
                                            exact ⟨_, by first | rfl | (simp [errW_none, errW_some] <;> rfl) | (simp [*, errW_none, errW_some] <;> rfl), by first | exact Kd.R_nil _ _ _ _ _ | exact Kd.N_nil _ _ _ _ _ | exact Kd.V_nil _ _ _ _ _ | exact Kd.Q_nil _ _ _ _ _ | exact Kd.S_nil _ _ _ _ _, by repeat (first | (with_reducible first | exact HB.out | apply below_alloc | apply pw_below_drewN | apply below_drew1 | refine below_set ?_ GE538.out | refine below_set ?_ GE552.out) | exact HB.out)⟩
                                        · rw [if_neg c50] at H
                                          have c50b0 : (t565 == 0) = false := beq_eq_false_iff_ne.mpr c50
                                          have c50b1 : (t565 != 0) = true := bne_iff_ne.mpr c50
                                          simp only [Option.some.injEq, Prod.mk.injEq] at H
                                          obtain ⟨rfl, rfl, rfl, rfl, rfl, rfl, rfl, rfl, rfl, rfl, rfl⟩ := H
                                          go_wp2_with (first | ((with_reducible refine gate_callee (f := 92) rfl ?_); refine goesL_ (some 93) rfl rfl Try.func92 (by kernel_rfl) rfl #[.string x0_4] rfl (by (try simp only [List.map_toArray, List.map_cons, List.map_nil]); first | done | rfl | (simp only [List.length_drop, List.length_take]; rfl)) ?_; (with_reducible refine (pack_TakeNum.calls k4 x0_4 t563 t564 t565 _ A48.out).mono ?_); rintro e w' ⟨rfl, ⟨nd, rfl⟩⟩; refine ⟨_, rfl, ?_⟩; (try (rw [drewN_self wr]; generalize hq_ : World.drewN wr _ = wr; have n0_ : Aside0 (Kd.R k75 75 wr w.heap.size (fun _ => True) u553008 x553008_4) := ⟨by rw [← hq_]; exact (by (with_reducible repeat (first | apply Kd.R_alloc | apply Kd.R_drewN | apply Kd.R_drew)); exact HO_553008.out)⟩; have n1_ : Aside0 (wr.heap[gb538]? = some (.cells #[.int .i64 x539000_4, .int .u64 x539001_4, .int .u64 x539002_4, .int .u64 x539003_4, .int .u64 x539004_4, .int .u64 x539005_4, .int .u64 x539006_4, .bool x539007_4, .slice none 0 0, .string x539009_4] 57 (0, 0))) := ⟨by rw [← hq_]; exact (by (with_reducible repeat (first | refine blk_drewN ?_ _ | refine blk_drew ?_ | refine blk_alloc ?_ _)); exact BK538.out)⟩; have n2_ : Aside0 (wr.heap[gb552]? = some (.cells #[.int .i64 (wrap64 (rd t539 0)), .int .u64 (rd t539 1), .int .u64 (rd t539 2), .int .u64 (rd t539 3), .int .u64 (rd t539 4), .int .u64 (rd t539 5), .int .u64 (rd t539 6), .bool (t553 == 1), u553008, .string (⟨#[]⟩ : ByteArray)] 57 (0, 0))) := ⟨by rw [← hq_]; exact (by (with_reducible repeat (first | refine blk_drewN ?_ _ | refine blk_drew ?_ | refine blk_alloc ?_ _)); exact BK552.out)⟩; have n3_ : Aside0 (Below w.heap.size w wr) := ⟨by rw [← hq_]; exact (by repeat (first | (with_reducible first | exact HB.out | apply below_alloc | apply pw_below_drewN | apply below_drew1 | refine below_set ?_ GE538.out | refine below_set ?_ GE552.out) | exact HB.out))⟩; clear HO_553008 BK538 BK552 HB hq_; have HO_553008 := n0_; have BK538 := n1_; have BK552 := n2_; have HB := n3_; clear n0_ n1_ n2_ n3_))) | ((with_reducible refine gate_callee (f := 93) rfl ?_); refine goesL_ (some 99) rfl rfl Try.func93 (by kernel_rfl) rfl #[.string t564] rfl (by (try simp only [List.map_toArray, List.map_cons, List.map_nil]); first | done | rfl | (simp only [List.length_drop, List.length_take]; rfl)) ?_; (with_reducible refine (pack_TakeText.calls k4 t564 t566 t567 t568 _ A49.out).mono ?_); rintro e w' ⟨rfl, ⟨nd, rfl⟩⟩; refine ⟨_, rfl, ?_⟩; (try (rw [drewN_self wr]; generalize hq_ : World.drewN wr _ = wr; have n0_ : Aside0 (Kd.R k75 75 wr w.heap.size (fun _ => True) u553008 x553008_4) := ⟨by rw [← hq_]; exact (by (with_reducible repeat (first | apply Kd.R_alloc | apply Kd.R_drewN | apply Kd.R_drew)); exact HO_553008.out)⟩; have n1_ : Aside0 (wr.heap[gb538]? = some (.cells #[.int .i64 x539000_4, .int .u64 x539001_4, .int .u64 x539002_4, .int .u64 x539003_4, .int .u64 x539004_4, .int .u64 x539005_4, .int .u64 x539006_4, .bool x539007_4, .slice none 0 0, .string x539009_4] 57 (0, 0))) := ⟨by rw [← hq_]; exact (by (with_reducible repeat (first | refine blk_drewN ?_ _ | refine blk_drew ?_ | refine blk_alloc ?_ _)); exact BK538.out)⟩; have n2_ : Aside0 (wr.heap[gb552]? = some (.cells #[.int .i64 (wrap64 (rd t539 0)), .int .u64 (rd t539 1), .int .u64 (rd t539 2), .int .u64 (rd t539 3), .int .u64 (rd t539 4), .int .u64 (rd t539 5), .int .u64 (rd t539 6), .bool (t553 == 1), u553008, .string (⟨#[]⟩ : ByteArray)] 57 (0, 0))) := ⟨by rw [← hq_]; exact (by (with_reducible repeat (first | refine blk_drewN ?_ _ | refine blk_drew ?_ | refine blk_alloc ?_ _)); exact BK552.out)⟩; have n3_ : Aside0 (Below w.heap.size w wr) := ⟨by rw [← hq_]; exact (by repeat (first | (with_reducible first | exact HB.out | apply below_alloc | apply pw_below_drewN | apply below_drew1 | refine below_set ?_ GE538.out | refine below_set ?_ GE552.out) | exact HB.out))⟩; clear HO_553008 BK538 BK552 HB hq_; have HO_553008 := n0_; have BK538 := n1_; have BK552 := n2_; have HB := n3_; clear n0_ n1_ n2_ n3_)); have hnb60 := NB538_552.out; have hnc60 := NB552_538.out; have hcz61_0 : wr.cell? ⟨gb538, 0, none⟩ = some (.int .i64 x539000_4) := (blk_cell BK538.out 0).trans rfl; have hcz61_1 : wr.cell? ⟨gb538, 1, none⟩ = some (.int .u64 x539001_4) := (blk_cell BK538.out 1).trans rfl; have hcz61_2 : wr.cell? ⟨gb538, 2, none⟩ = some (.int .u64 x539002_4) := (blk_cell BK538.out 2).trans rfl; have hcz61_3 : wr.cell? ⟨gb538, 3, none⟩ = some (.int .u64 x539003_4) := (blk_cell BK538.out 3).trans rfl; have hcz61_4 : wr.cell? ⟨gb538, 4, none⟩ = some (.int .u64 x539004_4) := (blk_cell BK538.out 4).trans rfl; have hcz61_5 : wr.cell? ⟨gb538, 5, none⟩ = some (.int .u64 x539005_4) := (blk_cell BK538.out 5).trans rfl; have hcz61_6 : wr.cell? ⟨gb538, 6, none⟩ = some (.int .u64 x539006_4) := (blk_cell BK538.out 6).trans rfl; have hcz61_7 : wr.cell? ⟨gb538, 7, none⟩ = some (.bool x539007_4) := (blk_cell BK538.out 7).trans rfl; have hcz61_8 : wr.cell? ⟨gb538, 8, none⟩ = some (.slice none 0 0) := (blk_cell BK538.out 8).trans rfl; have hcz61_9 : wr.cell? ⟨gb538, 9, none⟩ = some (.string x539009_4) := (blk_cell BK538.out 9).trans rfl; have hfz61_0 := blk_frozen BK538.out 0; have hfz61_1 := blk_frozen BK538.out 1; have hfz61_2 := blk_frozen BK538.out 2; have hfz61_3 := blk_frozen BK538.out 3; have hfz61_4 := blk_frozen BK538.out 4; have hfz61_5 := blk_frozen BK538.out 5; have hfz61_6 := blk_frozen BK538.out 6; have hfz61_7 := blk_frozen BK538.out 7; have hfz61_8 := blk_frozen BK538.out 8; have hfz61_9 := blk_frozen BK538.out 9))
                                          refine bodyPost_ret (results_ct rfl _ _ gb538 57 #[.int .i64 0, .int .u64 0, .int .u64 0, .int .u64 0, .int .u64 0, .int .u64 0, .int .u64 0, .bool false, .slice none 0 0, .string (⟨#[]⟩ : ByteArray)] (0, 0) _ rfl (by (with_reducible repeat (first | refine blk_drewN ?_ _ | refine blk_drew ?_ | refine blk_alloc ?_ _)); refine blk_put (cs := #[.int .i64 0, .int .u64 0, .int .u64 0, .int .u64 0, .int .u64 0, .int .u64 0, .int .u64 0, .bool false, .slice none 0 0, .string x539009_4]) ?_ 9 _ rfl; (with_reducible repeat (first | refine blk_drewN ?_ _ | refine blk_drew ?_ | refine blk_alloc ?_ _)); refine blk_put (cs := #[.int .i64 0, .int .u64 0, .int .u64 0, .int .u64 0, .int .u64 0, .int .u64 0, .int .u64 0, .bool false, .slice none 0 0, .string x539009_4]) ?_ 8 _ rfl; (with_reducible repeat (first | refine blk_drewN ?_ _ | refine blk_drew ?_ | refine blk_alloc ?_ _)); refine blk_put (cs := #[.int .i64 0, .int .u64 0, .int .u64 0, .int .u64 0, .int .u64 0, .int .u64 0, .int .u64 0, .bool x539007_4, .slice none 0 0, .string x539009_4]) ?_ 7 _ rfl; (with_reducible repeat (first | refine blk_drewN ?_ _ | refine blk_drew ?_ | refine blk_alloc ?_ _)); refine blk_put (cs := #[.int .i64 0, .int .u64 0, .int .u64 0, .int .u64 0, .int .u64 0, .int .u64 0, .int .u64 x539006_4, .bool x539007_4, .slice none 0 0, .string x539009_4]) ?_ 6 _ rfl; (with_reducible repeat (first | refine blk_drewN ?_ _ | refine blk_drew ?_ | refine blk_alloc ?_ _)); refine blk_put (cs := #[.int .i64 0, .int .u64 0, .int .u64 0, .int .u64 0, .int .u64 0, .int .u64 x539005_4, .int .u64 x539006_4, .bool x539007_4, .slice none 0 0, .string x539009_4]) ?_ 5 _ rfl; (with_reducible repeat (first | refine blk_drewN ?_ _ | refine blk_drew ?_ | refine blk_alloc ?_ _)); refine blk_put (cs := #[.int .i64 0, .int .u64 0, .int .u64 0, .int .u64 0, .int .u64 x539004_4, .int .u64 x539005_4, .int .u64 x539006_4, .bool x539007_4, .slice none 0 0, .string x539009_4]) ?_ 4 _ rfl; (with_reducible repeat (first | refine blk_drewN ?_ _ | refine blk_drew ?_ | refine blk_alloc ?_ _)); refine blk_put (cs := #[.int .i64 0, .int .u64 0, .int .u64 0, .int .u64 x539003_4, .int .u64 x539004_4, .int .u64 x539005_4, .int .u64 x539006_4, .bool x539007_4, .slice none 0 0, .string x539009_4]) ?_ 3 _ rfl; (with_reducible repeat (first | refine blk_drewN ?_ _ | refine blk_drew ?_ | refine blk_alloc ?_ _)); refine blk_put (cs := #[.int .i64 0, .int .u64 0, .int .u64 x539002_4, .int .u64 x539003_4, .int .u64 x539004_4, .int .u64 x539005_4, .int .u64 x539006_4, .bool x539007_4, .slice none 0 0, .string x539009_4]) ?_ 2 _ rfl; (with_reducible repeat (first | refine blk_drewN ?_ _ | refine blk_drew ?_ | refine blk_alloc ?_ _)); refine blk_put (cs := #[.int .i64 0, .int .u64 x539001_4, .int .u64 x539002_4, .int .u64 x539003_4, .int .u64 x539004_4, .int .u64 x539005_4, .int .u64 x539006_4, .bool x539007_4, .slice none 0 0, .string x539009_4]) ?_ 1 _ rfl; (with_reducible repeat (first | refine blk_drewN ?_ _ | refine blk_drew ?_ | refine blk_alloc ?_ _)); refine blk_put (cs := #[.int .i64 x539000_4, .int .u64 x539001_4, .int .u64 x539002_4, .int .u64 x539003_4, .int .u64 x539004_4, .int .u64 x539005_4, .int .u64 x539006_4, .bool x539007_4, .slice none 0 0, .string x539009_4]) ?_ 0 _ rfl; (with_reducible repeat (first | refine blk_drewN ?_ _ | refine blk_drew ?_ | refine blk_alloc ?_ _)); exact BK538.out) Try.underlying57 rfl (by kernel_rfl)) rfl ?_
                                          exact ⟨_, by first | rfl | (simp [errW_none, errW_some] <;> rfl) | (simp [*, errW_none, errW_some] <;> rfl), by first | exact Kd.R_nil _ _ _ _ _ | exact Kd.N_nil _ _ _ _ _ | exact Kd.V_nil _ _ _ _ _ | exact Kd.Q_nil _ _ _ _ _ | exact Kd.S_nil _ _ _ _ _, by repeat (first | (with_reducible first | exact HB.out | apply below_alloc | apply pw_below_drewN | apply below_drew1 | refine below_set ?_ GE538.out | refine below_set ?_ GE552.out) | exact HB.out)⟩
                                      · rw [if_neg c47] at H
                                        have c47b0 : decide (x89_4 < t556) = false := decide_eq_false c47
                                        clear c47
                                        replace H := Option.bind_eq_some_iff.mp H
                                        obtain ⟨⟨t559, t560, t561⟩, A620, H⟩ := H
                                        replace H : (if t561 = 0 then (if t560.toList = ([] : List UInt8) then ((post_May.f (wrap64 (rd t539 0)) (rd t539 1) (rd t539 2) (rd t539 3) (rd t539 4) (rd t539 5) (rd t539 6) (t553 == 1) x553008_4 t559).bind fun t562 => (some ((wrap64 (rd t539 0)), (rd t539 1), (rd t539 2), (rd t539 3), (rd t539 4), (rd t539 5), (rd t539 6), (t553 == 1), x553008_4, t559, t562))) else (some ((wrap64 (rd t539 0)), (rd t539 1), (rd t539 2), (rd t539 3), (rd t539 4), (rd t539 5), (rd t539 6), (t553 == 1), x553008_4, t559, false))) else (some ((wrap64 (rd t539 0)), (rd t539 1), (rd t539 2), (rd t539 3), (rd t539 4), (rd t539 5), (rd t539 6), (t553 == 1), x553008_4, t559, false))) = some (r1, r2, r3, r4, r5, r6, r7, r8, r9, r10, r11) := H
                                        have A62 := Aside0.mk A620
                                        clear A620
                                        by_cases c63 : t561 = 0
                                        · rw [if_pos c63] at H
                                          have c63b0 : (t561 == 0) = true := beq_iff_eq.mpr c63
                                          have c63b1 : (t561 != 0) = false := bne_eq_false_iff_eq.mpr c63
                                          clear c63
                                          by_cases c64 : t560.toList = ([] : List UInt8)
                                          · rw [if_pos c64] at H
                                            have c64b0 : (t560.toList == ([] : List UInt8)) = true := beq_iff_eq.mpr c64
                                            have c64b1 : (t560.toList != ([] : List UInt8)) = false := bne_eq_false_iff_eq.mpr c64
                                            clear c64
                                            replace H := Option.bind_eq_some_iff.mp H
                                            obtain ⟨t562, A650, H⟩ := H
                                            replace H : (some ((wrap64 (rd t539 0)), (rd t539 1), (rd t539 2), (rd t539 3), (rd t539 4), (rd t539 5), (rd t539 6), (t553 == 1), x553008_4, t559, t562)) = some (r1, r2, r3, r4, r5, r6, r7, r8, r9, r10, r11) := H
                                            have A65 := Aside0.mk A650
                                            clear A650
                                            simp only [Option.some.injEq, Prod.mk.injEq] at H
                                            obtain ⟨rfl, rfl, rfl, rfl, rfl, rfl, rfl, rfl, rfl, rfl, rfl⟩ := H
                                            try go_wp2_with (first | ((with_reducible refine gate_callee (f := 93) rfl ?_); refine goesL_ (some 122) rfl rfl Try.func93 (by kernel_rfl) rfl #[.string x0_4] rfl (by (try simp only [List.map_toArray, List.map_cons, List.map_nil]); first | done | rfl | (simp only [List.length_drop, List.length_take]; rfl)) ?_; (with_reducible refine (pack_TakeText.calls k4 x0_4 t559 t560 t561 _ A62.out).mono ?_); rintro e w' ⟨rfl, ⟨nd, rfl⟩⟩; refine ⟨_, rfl, ?_⟩; (try (rw [drewN_self wr]; generalize hq_ : World.drewN wr _ = wr; have n0_ : Aside0 (Kd.R k75 75 wr w.heap.size (fun _ => True) u553008 x553008_4) := ⟨by rw [← hq_]; exact (by (with_reducible repeat (first | apply Kd.R_alloc | apply Kd.R_drewN | apply Kd.R_drew)); exact HO_553008.out)⟩; have n1_ : Aside0 (wr.heap[gb538]? = some (.cells #[.int .i64 x539000_4, .int .u64 x539001_4, .int .u64 x539002_4, .int .u64 x539003_4, .int .u64 x539004_4, .int .u64 x539005_4, .int .u64 x539006_4, .bool x539007_4, .slice none 0 0, .string x539009_4] 57 (0, 0))) := ⟨by rw [← hq_]; exact (by (with_reducible repeat (first | refine blk_drewN ?_ _ | refine blk_drew ?_ | refine blk_alloc ?_ _)); exact BK538.out)⟩; have n2_ : Aside0 (wr.heap[gb552]? = some (.cells #[.int .i64 (wrap64 (rd t539 0)), .int .u64 (rd t539 1), .int .u64 (rd t539 2), .int .u64 (rd t539 3), .int .u64 (rd t539 4), .int .u64 (rd t539 5), .int .u64 (rd t539 6), .bool (t553 == 1), u553008, .string (⟨#[]⟩ : ByteArray)] 57 (0, 0))) := ⟨by rw [← hq_]; exact (by (with_reducible repeat (first | refine blk_drewN ?_ _ | refine blk_drew ?_ | refine blk_alloc ?_ _)); exact BK552.out)⟩; have n3_ : Aside0 (Below w.heap.size w wr) := ⟨by rw [← hq_]; exact (by repeat (first | (with_reducible first | exact HB.out | apply below_alloc | apply pw_below_drewN | apply below_drew1 | refine below_set ?_ GE538.out | refine below_set ?_ GE552.out) | exact HB.out))⟩; clear HO_553008 BK538 BK552 HB hq_; have HO_553008 := n0_; have BK538 := n1_; have BK552 := n2_; have HB := n3_; clear n0_ n1_ n2_ n3_)); have hnb66 := NB552_538.out; have hnc66 := NB538_552.out; have hcz67_0 : wr.cell? ⟨gb552, 0, none⟩ = some (.int .i64 (wrap64 (rd t539 0))) := (blk_cell BK552.out 0).trans rfl; have hcz67_1 : wr.cell? ⟨gb552, 1, none⟩ = some (.int .u64 (rd t539 1)) := (blk_cell BK552.out 1).trans rfl; have hcz67_2 : wr.cell? ⟨gb552, 2, none⟩ = some (.int .u64 (rd t539 2)) := (blk_cell BK552.out 2).trans rfl; have hcz67_3 : wr.cell? ⟨gb552, 3, none⟩ = some (.int .u64 (rd t539 3)) := (blk_cell BK552.out 3).trans rfl; have hcz67_4 : wr.cell? ⟨gb552, 4, none⟩ = some (.int .u64 (rd t539 4)) := (blk_cell BK552.out 4).trans rfl; have hcz67_5 : wr.cell? ⟨gb552, 5, none⟩ = some (.int .u64 (rd t539 5)) := (blk_cell BK552.out 5).trans rfl; have hcz67_6 : wr.cell? ⟨gb552, 6, none⟩ = some (.int .u64 (rd t539 6)) := (blk_cell BK552.out 6).trans rfl; have hcz67_7 : wr.cell? ⟨gb552, 7, none⟩ = some (.bool (t553 == 1)) := (blk_cell BK552.out 7).trans rfl; have hcz67_8 : wr.cell? ⟨gb552, 8, none⟩ = some (u553008) := (blk_cell BK552.out 8).trans rfl; have hcz67_9 : wr.cell? ⟨gb552, 9, none⟩ = some (.string (⟨#[]⟩ : ByteArray)) := (blk_cell BK552.out 9).trans rfl; have hfz67_0 := blk_frozen BK552.out 0; have hfz67_1 := blk_frozen BK552.out 1; have hfz67_2 := blk_frozen BK552.out 2; have hfz67_3 := blk_frozen BK552.out 3; have hfz67_4 := blk_frozen BK552.out 4; have hfz67_5 := blk_frozen BK552.out 5; have hfz67_6 := blk_frozen BK552.out 6; have hfz67_7 := blk_frozen BK552.out 7; have hfz67_8 := blk_frozen BK552.out 8; have hfz67_9 := blk_frozen BK552.out 9))
                                            have n0_ : Aside0 (Kd.R k75 75 (wr.setCell ⟨gb552, 9, none⟩ (.string t559)) w.heap.size (fun _ => True) u553008 x553008_4) := ⟨by (with_reducible repeat (first | apply Kd.R_alloc | apply Kd.R_drewN | apply Kd.R_drew)); exact Kd.R_mono (Kd.R_far (p := ⟨gb552, 9, none⟩) (Kd.R_types HO_553008.out BK552.out (by decide)) (fun _ hk => hk.2) (.string t559)) (fun _ hk => trivial)⟩
                                            have n1_ : Aside0 ((wr.setCell ⟨gb552, 9, none⟩ (.string t559)).heap[gb538]? = some (.cells #[.int .i64 x539000_4, .int .u64 x539001_4, .int .u64 x539002_4, .int .u64 x539003_4, .int .u64 x539004_4, .int .u64 x539005_4, .int .u64 x539006_4, .bool x539007_4, .slice none 0 0, .string x539009_4] 57 (0, 0))) := ⟨by (with_reducible repeat (first | refine blk_drewN ?_ _ | refine blk_drew ?_ | refine blk_alloc ?_ _)); refine blk_far ?_ NB538_552.out _; (with_reducible repeat (first | refine blk_drewN ?_ _ | refine blk_drew ?_ | refine blk_alloc ?_ _)); exact BK538.out⟩
                                            have n2_ : Aside0 ((wr.setCell ⟨gb552, 9, none⟩ (.string t559)).heap[gb552]? = some (.cells #[.int .i64 (wrap64 (rd t539 0)), .int .u64 (rd t539 1), .int .u64 (rd t539 2), .int .u64 (rd t539 3), .int .u64 (rd t539 4), .int .u64 (rd t539 5), .int .u64 (rd t539 6), .bool (t553 == 1), u553008, .string t559] 57 (0, 0))) := ⟨by (with_reducible repeat (first | refine blk_drewN ?_ _ | refine blk_drew ?_ | refine blk_alloc ?_ _)); refine blk_put (cs := #[.int .i64 (wrap64 (rd t539 0)), .int .u64 (rd t539 1), .int .u64 (rd t539 2), .int .u64 (rd t539 3), .int .u64 (rd t539 4), .int .u64 (rd t539 5), .int .u64 (rd t539 6), .bool (t553 == 1), u553008, .string (⟨#[]⟩ : ByteArray)]) ?_ 9 _ rfl; (with_reducible repeat (first | refine blk_drewN ?_ _ | refine blk_drew ?_ | refine blk_alloc ?_ _)); exact BK552.out⟩
                                            have n3_ : Aside0 (Below w.heap.size w (wr.setCell ⟨gb552, 9, none⟩ (.string t559))) := ⟨by repeat (first | (with_reducible first | exact HB.out | apply below_alloc | apply pw_below_drewN | apply below_drew1 | refine below_set ?_ GE538.out | refine below_set ?_ GE552.out) | exact HB.out)⟩
                                            (try clear HO_553008)
                                            (try clear BK538)
                                            (try clear BK552)
                                            (try clear HB)
                                            generalize (wr.setCell ⟨gb552, 9, none⟩ (.string t559)) = w68 at n0_ n1_ n2_ n3_ ⊢
                                            have HO_553008 := n0_
                                            have BK538 := n1_
                                            have BK552 := n2_
                                            have HB := n3_
                                            clear n0_ n1_ n2_ n3_
                                            have n0_ := Aside0.mk (Kd.R_drew HO_553008.out)
                                            have n1_ := Aside0.mk (blk_drew BK538.out)
                                            have n2_ := Aside0.mk (blk_drew BK552.out)
                                            have n3_ := Aside0.mk (below_drew1 HB.out)
                                            clear HO_553008
                                            clear BK538
                                            clear BK552
                                            clear HB
                                            have HO_553008 := n0_
                                            have BK538 := n1_
                                            have BK552 := n2_
                                            have HB := n3_
                                            clear n0_ n1_ n2_ n3_
                                            obtain ⟨Ao70, co70, eo70⟩ := Kd.R_slice HO_553008.out
                                            (first | subst eo70 | (injection eo70 with f1_ f2_ f3_; have f4_ := f1_.symm; have f5_ := f3_.symm; clear f1_ f2_ f3_; subst f4_; subst f5_))
                                            refine start_ (n := 13) (S := fun w' => w'.cell? ⟨gb552, 0, none⟩ = some (.int .i64 (wrap64 (rd t539 0))) ∧ w'.cell? ⟨gb552, 1, none⟩ = some (.int .u64 (rd t539 1)) ∧ w'.cell? ⟨gb552, 2, none⟩ = some (.int .u64 (rd t539 2)) ∧ w'.cell? ⟨gb552, 3, none⟩ = some (.int .u64 (rd t539 3)) ∧ w'.cell? ⟨gb552, 4, none⟩ = some (.int .u64 (rd t539 4)) ∧ w'.cell? ⟨gb552, 5, none⟩ = some (.int .u64 (rd t539 5)) ∧ w'.cell? ⟨gb552, 6, none⟩ = some (.int .u64 (rd t539 6)) ∧ w'.cell? ⟨gb552, 7, none⟩ = some (.bool (t553 == 1)) ∧ w'.cell? ⟨gb552, 8, none⟩ = some (.slice Ao70 x553008_4.length co70) ∧ w'.cell? ⟨gb552, 9, none⟩ = some (.string t559)) (ds := []) #[false, false, false, false, false, false, false, false, false, false, false, false, false] (by kernel_rfl) rfl rfl ⟨(blk_cell BK552.out 0).trans rfl, (blk_cell BK552.out 1).trans rfl, (blk_cell BK552.out 2).trans rfl, (blk_cell BK552.out 3).trans rfl, (blk_cell BK552.out 4).trans rfl, (blk_cell BK552.out 5).trans rfl, (blk_cell BK552.out 6).trans rfl, (blk_cell BK552.out 7).trans rfl, (blk_cell BK552.out 8).trans rfl, (blk_cell BK552.out 9).trans rfl⟩ (fun hHeld => ?_); refine with_tabW post_take.tab22 post_take.bits22 (fun HT_ HW_ => ?_)
                                            generalize w68.drew = w69 at HO_553008 BK538 BK552 HB hHeld ⊢
                                            refine pure_ (i := 1) (N := some 129) (v := ?_) (a' := ?_) #[false, true, false, false, false, false, false, false, false, false, false, false, false] rfl rfl (any_of HT_.out (by kernel_rfl)) (fun _ _ _ h => h) (Or.inl ⟨by rfl, ?_⟩) ?_ ?_
                                            rotate_left
                                            · intro w'
                                              go_simp
                                              with_reducible rfl
                                            rotate_left
                                            · simp only [Act.put, List.setIfInBounds_toArray, List.set_cons_zero, List.set_cons_succ, i64_w, i32_w]
                                              rfl
                                            refine pure_ (i := 2) (N := some 130) (v := ?_) (a' := ?_) #[false, true, true, false, false, false, false, false, false, false, false, false, false] rfl rfl (any_of HT_.out (by kernel_rfl)) (fun _ _ _ h => h) (Or.inl ⟨by rfl, ?_⟩) ?_ ?_
                                            rotate_left
                                            · intro w'
                                              go_simp
                                              with_reducible rfl
                                            rotate_left
                                            · simp only [Act.put, List.setIfInBounds_toArray, List.set_cons_zero, List.set_cons_succ, i64_w, i32_w]
                                              rfl
                                            refine pure_ (i := 3) (N := some 131) (v := ?_) (a' := ?_) #[false, true, true, true, false, false, false, false, false, false, false, false, false] rfl rfl (any_of HT_.out (by kernel_rfl)) (fun _ _ _ h => h) (Or.inl ⟨by rfl, ?_⟩) ?_ ?_
                                            rotate_left
                                            · intro w'
                                              go_simp
                                              with_reducible rfl
                                            rotate_left
                                            · simp only [Act.put, List.setIfInBounds_toArray, List.set_cons_zero, List.set_cons_succ, i64_w, i32_w]
                                              rfl
                                            refine pure_ (i := 4) (N := some 132) (v := ?_) (a' := ?_) #[false, true, true, true, true, false, false, false, false, false, false, false, false] rfl rfl (any_of HT_.out (by kernel_rfl)) (fun _ _ _ h => h) (Or.inl ⟨by rfl, ?_⟩) ?_ ?_
                                            rotate_left
                                            · intro w'
                                              go_simp
                                              with_reducible rfl
                                            rotate_left
                                            · simp only [Act.put, List.setIfInBounds_toArray, List.set_cons_zero, List.set_cons_succ, i64_w, i32_w]
                                              rfl
                                            refine pure_ (i := 5) (N := some 133) (v := ?_) (a' := ?_) #[false, true, true, true, true, true, false, false, false, false, false, false, false] rfl rfl (any_of HT_.out (by kernel_rfl)) (fun _ _ _ h => h) (Or.inl ⟨by rfl, ?_⟩) ?_ ?_
                                            rotate_left
                                            · intro w'
                                              go_simp
                                              with_reducible rfl
                                            rotate_left
                                            · simp only [Act.put, List.setIfInBounds_toArray, List.set_cons_zero, List.set_cons_succ, i64_w, i32_w]
                                              rfl
                                            refine pure_ (i := 6) (N := some 134) (v := ?_) (a' := ?_) #[false, true, true, true, true, true, true, false, false, false, false, false, false] rfl rfl (any_of HT_.out (by kernel_rfl)) (fun _ _ _ h => h) (Or.inl ⟨by rfl, ?_⟩) ?_ ?_
                                            rotate_left
                                            · intro w'
                                              go_simp
                                              with_reducible rfl
                                            rotate_left
                                            · simp only [Act.put, List.setIfInBounds_toArray, List.set_cons_zero, List.set_cons_succ, i64_w, i32_w]
                                              rfl
                                            refine pure_ (i := 7) (N := some 135) (v := ?_) (a' := ?_) #[false, true, true, true, true, true, true, true, false, false, false, false, false] rfl rfl (any_of HT_.out (by kernel_rfl)) (fun _ _ _ h => h) (Or.inl ⟨by rfl, ?_⟩) ?_ ?_
                                            rotate_left
                                            · intro w'
                                              go_simp
                                              with_reducible rfl
                                            rotate_left
                                            · simp only [Act.put, List.setIfInBounds_toArray, List.set_cons_zero, List.set_cons_succ, i64_w, i32_w]
                                              rfl
                                            refine take_ (i := 0) (N := some 128) (v := ?_) (a' := ?_) #[true, true, true, true, true, true, true, true, false, false, false, false, false] rfl rfl (take_ofW HT_.out HW_.out (by kernel_rfl)) (fun _ _ _ h => h) (Or.inl ⟨by rfl, ?_⟩) hHeld ?_ ?_
                                            rotate_left
                                            · rintro w' ⟨s0, s1, s2, s3, s4, s5, s6, s7, s8, s9⟩
                                              go_simp
                                              with_reducible rfl
                                            rotate_left
                                            · simp only [Act.put, List.setIfInBounds_toArray, List.set_cons_zero, List.set_cons_succ, i64_w, i32_w]
                                              rfl
                                            refine take_ (i := 8) (N := some 136) (v := ?_) (a' := ?_) #[true, true, true, true, true, true, true, true, true, false, false, false, false] rfl rfl (take_ofW HT_.out HW_.out (by kernel_rfl)) (fun _ _ _ h => h) (Or.inl ⟨by rfl, ?_⟩) hHeld ?_ ?_
                                            rotate_left
                                            · rintro w' ⟨s0, s1, s2, s3, s4, s5, s6, s7, s8, s9⟩
                                              go_simp
                                              with_reducible rfl
                                            rotate_left
                                            · simp only [Act.put, List.setIfInBounds_toArray, List.set_cons_zero, List.set_cons_succ, i64_w, i32_w]
                                              rfl
                                            refine one_ (i := 9) (N := some 137) #[true, true, true, true, true, true, true, true, true, true, false, false, false] rfl rfl (one_of HT_.out (by kernel_rfl)) (by decide) (fun K hK => ?_)
                                            refine goes_ Try.func33 (by kernel_rfl) rfl #[.agg #[.int .i64 (wrap64 (rd t539 0)), .int .u64 (rd t539 1), .int .u64 (rd t539 2), .int .u64 (rd t539 3), .int .u64 (rd t539 4), .int .u64 (rd t539 5), .int .u64 (rd t539 6), .bool (t553 == 1), .slice Ao70 x553008_4.length co70, .string t559]] (by rfl) rfl rfl (by (try simp only [List.map_toArray, List.map_cons, List.map_nil]); first | done | rfl | (simp only [List.length_drop, List.length_take]; rfl)) ?_
                                            with_reducible refine (post_May.calls (wrap64 (rd t539 0)) (rd t539 1) (rd t539 2) (rd t539 3) (rd t539 4) (rd t539 5) (rd t539 6) (t553 == 1) _ _ x553008_4 t559 t562 _ ?side1 ?side2 A65.out).mono ?_
                                            (case side1 => repeat (first | exact (Kd.R_reads' HO_553008.out).2.2 | (with_reducible refine Kd.C_alloc ?_ _) | (with_reducible refine Kd.C_drewN ?_ _) | (with_reducible refine Kd.C_drew ?_)))
                                            (case side2 => exact (Kd.R_reads' HO_553008.out).2.1)
                                            rintro e w71 ⟨rfl, hb⟩
                                            refine ⟨_, rfl, ?_⟩
                                            have n0_ := Aside0.mk (Kd.R_below (by (with_reducible repeat (first | apply Kd.R_alloc | apply Kd.R_drewN | apply Kd.R_drew)); exact HO_553008.out) hb)
                                            have n1_ := Aside0.mk (blk_below (g := gb538) (o := .cells #[.int .i64 x539000_4, .int .u64 x539001_4, .int .u64 x539002_4, .int .u64 x539003_4, .int .u64 x539004_4, .int .u64 x539005_4, .int .u64 x539006_4, .bool x539007_4, .slice none 0 0, .string x539009_4] 57 (0, 0)) (by (with_reducible repeat (first | refine blk_drewN ?_ _ | refine blk_drew ?_ | refine blk_alloc ?_ _)); exact BK538.out) hb)
                                            have n2_ := Aside0.mk (blk_below (g := gb552) (o := .cells #[.int .i64 (wrap64 (rd t539 0)), .int .u64 (rd t539 1), .int .u64 (rd t539 2), .int .u64 (rd t539 3), .int .u64 (rd t539 4), .int .u64 (rd t539 5), .int .u64 (rd t539 6), .bool (t553 == 1), .slice Ao70 x553008_4.length co70, .string t559] 57 (0, 0)) (by (with_reducible repeat (first | refine blk_drewN ?_ _ | refine blk_drew ?_ | refine blk_alloc ?_ _)); exact BK552.out) hb)
                                            have n3_ := Aside0.mk (below_step (by repeat (first | (with_reducible first | exact HB.out | apply below_alloc | apply pw_below_drewN | apply below_drew1 | refine below_set ?_ GE538.out | refine below_set ?_ GE552.out) | exact HB.out | exact Below.refl _ _)) hb)
                                            clear HO_553008
                                            clear BK538
                                            clear BK552
                                            clear HB
                                            have HO_553008 := n0_
                                            have BK538 := n1_
                                            have BK552 := n2_
                                            have HB := n3_
                                            clear n0_ n1_ n2_ n3_
                                            (try clear hb)
                                            (try clear hb2)
                                            (try clear hk)
                                            (try clear hi)
                                            refine hK.out _ _ ⟨(blk_cell BK552.out 0).trans rfl, (blk_cell BK552.out 1).trans rfl, (blk_cell BK552.out 2).trans rfl, (blk_cell BK552.out 3).trans rfl, (blk_cell BK552.out 4).trans rfl, (blk_cell BK552.out 5).trans rfl, (blk_cell BK552.out 6).trans rfl, (blk_cell BK552.out 7).trans rfl, (blk_cell BK552.out 8).trans rfl, (blk_cell BK552.out 9).trans rfl⟩ (fun hHeld => ?_)
                                            clear hK K
                                            refine norm_ (a' := ?_) ?_ ?_
                                            rotate_left
                                            · show Act.put _ (some 137) _ = _
                                              simp only [Act.put, List.setIfInBounds_toArray, List.set_cons_zero, List.set_cons_succ, i64_w, i32_w]
                                              rfl
                                            refine pure_ (i := 10) (N := some 138) (v := ?_) (a' := ?_) #[true, true, true, true, true, true, true, true, true, true, true, false, false] rfl rfl (any_of HT_.out (by kernel_rfl)) (fun _ _ _ h => h) (Or.inl ⟨by rfl, ?_⟩) ?_ ?_
                                            rotate_left
                                            · intro w'
                                              go_simp
                                              with_reducible rfl
                                            rotate_left
                                            · simp only [Act.put, List.setIfInBounds_toArray, List.set_cons_zero, List.set_cons_succ, i64_w, i32_w]
                                              rfl
                                            refine one_ (i := 11) (N := none) #[true, true, true, true, true, true, true, true, true, true, true, true, false] rfl rfl (one_of HT_.out (by kernel_rfl)) (by decide) (fun K hK => ?_)
                                            refine skip_ (w1 := w71.setRow gb538 #[.int .i64 (wrap64 (rd t539 0)), .int .u64 (rd t539 1), .int .u64 (rd t539 2), .int .u64 (rd t539 3), .int .u64 (rd t539 4), .int .u64 (rd t539 5), .int .u64 (rd t539 6), .bool (t553 == 1), .slice Ao70 x553008_4.length co70, .string t559]) (by rfl) rfl (by refine exec_store10r rfl rfl ?hs_ BK538.out (by kernel_rfl) ?h1_; (case hs_ => rfl); (case h1_ => rfl)) ?_
                                            have n0_ := Aside0.mk (setRow_heap w71 gb538 _ #[.int .i64 (wrap64 (rd t539 0)), .int .u64 (rd t539 1), .int .u64 (rd t539 2), .int .u64 (rd t539 3), .int .u64 (rd t539 4), .int .u64 (rd t539 5), .int .u64 (rd t539 6), .bool (t553 == 1), .slice Ao70 x553008_4.length co70, .string t559] 57 (0, 0) BK538.out)
                                            have n1_ := Aside0.mk (row_blk BK552.out NB552_538.out #[.int .i64 (wrap64 (rd t539 0)), .int .u64 (rd t539 1), .int .u64 (rd t539 2), .int .u64 (rd t539 3), .int .u64 (rd t539 4), .int .u64 (rd t539 5), .int .u64 (rd t539 6), .bool (t553 == 1), .slice Ao70 x553008_4.length co70, .string t559])
                                            have n2_ := Aside0.mk (row_below HB.out GE538.out #[.int .i64 (wrap64 (rd t539 0)), .int .u64 (rd t539 1), .int .u64 (rd t539 2), .int .u64 (rd t539 3), .int .u64 (rd t539 4), .int .u64 (rd t539 5), .int .u64 (rd t539 6), .bool (t553 == 1), .slice Ao70 x553008_4.length co70, .string t559])
                                            have n3_ := Aside0.mk (row_R HO_553008.out BK538.out (by decide) #[.int .i64 (wrap64 (rd t539 0)), .int .u64 (rd t539 1), .int .u64 (rd t539 2), .int .u64 (rd t539 3), .int .u64 (rd t539 4), .int .u64 (rd t539 5), .int .u64 (rd t539 6), .bool (t553 == 1), .slice Ao70 x553008_4.length co70, .string t559])
                                            clear BK552 BK538 HB HO_553008
                                            generalize w71.setRow gb538 #[.int .i64 (wrap64 (rd t539 0)), .int .u64 (rd t539 1), .int .u64 (rd t539 2), .int .u64 (rd t539 3), .int .u64 (rd t539 4), .int .u64 (rd t539 5), .int .u64 (rd t539 6), .bool (t553 == 1), .slice Ao70 x553008_4.length co70, .string t559] = wZ_ at n0_ n1_ n2_ n3_ ⊢
                                            have BK538 := n0_
                                            have BK552 := n1_
                                            have HB := n2_
                                            have HO_553008 := n3_
                                            clear n0_ n1_ n2_ n3_
                                            refine hK.out _ _ ⟨(blk_cell BK552.out 0).trans rfl, (blk_cell BK552.out 1).trans rfl, (blk_cell BK552.out 2).trans rfl, (blk_cell BK552.out 3).trans rfl, (blk_cell BK552.out 4).trans rfl, (blk_cell BK552.out 5).trans rfl, (blk_cell BK552.out 6).trans rfl, (blk_cell BK552.out 7).trans rfl, (blk_cell BK552.out 8).trans rfl, (blk_cell BK552.out 9).trans rfl⟩ (fun hHeld => ?_)
                                            clear hK K
                                            refine pure_ (i := 12) (N := some 3) (v := ?_) (a' := ?_) #[true, true, true, true, true, true, true, true, true, true, true, true, true] rfl rfl (any_of HT_.out (by kernel_rfl)) (fun _ _ _ h => h) (Or.inl ⟨by rfl, ?_⟩) ?_ ?_
                                            rotate_left
                                            · intro w'
                                              go_simp
                                              with_reducible rfl
                                            rotate_left
                                            · simp only [Act.put, List.setIfInBounds_toArray, List.set_cons_zero, List.set_cons_succ, i64_w, i32_w]
                                              rfl
                                            refine done_ (done_of HT_.out (by kernel_rfl)) ?_
                                            try go_wp2
                                            refine bodyPost_ret (results_ct rfl _ _ gb538 57 #[.int .i64 (wrap64 (rd t539 0)), .int .u64 (rd t539 1), .int .u64 (rd t539 2), .int .u64 (rd t539 3), .int .u64 (rd t539 4), .int .u64 (rd t539 5), .int .u64 (rd t539 6), .bool (t553 == 1), .slice Ao70 x553008_4.length co70, .string t559] (0, 0) _ rfl (by (with_reducible repeat (first | refine blk_drewN ?_ _ | refine blk_drew ?_ | refine blk_alloc ?_ _)); exact BK538.out) Try.underlying57 rfl (by kernel_rfl)) rfl ?_
                                            exact ⟨_, by first | rfl | (simp [errW_none, errW_some] <;> rfl) | (simp [*, errW_none, errW_some] <;> rfl), by (with_reducible repeat (first | apply Kd.R_alloc | apply Kd.R_drewN | apply Kd.R_drew)); exact HO_553008.out, by repeat (first | (with_reducible first | exact HB.out | apply below_alloc | apply pw_below_drewN | apply below_drew1 | refine below_set ?_ GE538.out | refine below_set ?_ GE552.out) | exact HB.out)⟩
                                          · rw [if_neg c64] at H
                                            have c64b0 : (t560.toList == ([] : List UInt8)) = false := beq_eq_false_iff_ne.mpr c64
                                            have c64b1 : (t560.toList != ([] : List UInt8)) = true := bne_iff_ne.mpr c64
                                            simp only [Option.some.injEq, Prod.mk.injEq] at H
                                            obtain ⟨rfl, rfl, rfl, rfl, rfl, rfl, rfl, rfl, rfl, rfl, rfl⟩ := H
                                            try go_wp2_with (first | ((with_reducible refine gate_callee (f := 93) rfl ?_); refine goesL_ (some 122) rfl rfl Try.func93 (by kernel_rfl) rfl #[.string x0_4] rfl (by (try simp only [List.map_toArray, List.map_cons, List.map_nil]); first | done | rfl | (simp only [List.length_drop, List.length_take]; rfl)) ?_; (with_reducible refine (pack_TakeText.calls k4 x0_4 t559 t560 t561 _ A62.out).mono ?_); rintro e w' ⟨rfl, ⟨nd, rfl⟩⟩; refine ⟨_, rfl, ?_⟩; (try (rw [drewN_self wr]; generalize hq_ : World.drewN wr _ = wr; have n0_ : Aside0 (Kd.R k75 75 wr w.heap.size (fun _ => True) u553008 x553008_4) := ⟨by rw [← hq_]; exact (by (with_reducible repeat (first | apply Kd.R_alloc | apply Kd.R_drewN | apply Kd.R_drew)); exact HO_553008.out)⟩; have n1_ : Aside0 (wr.heap[gb538]? = some (.cells #[.int .i64 x539000_4, .int .u64 x539001_4, .int .u64 x539002_4, .int .u64 x539003_4, .int .u64 x539004_4, .int .u64 x539005_4, .int .u64 x539006_4, .bool x539007_4, .slice none 0 0, .string x539009_4] 57 (0, 0))) := ⟨by rw [← hq_]; exact (by (with_reducible repeat (first | refine blk_drewN ?_ _ | refine blk_drew ?_ | refine blk_alloc ?_ _)); exact BK538.out)⟩; have n2_ : Aside0 (wr.heap[gb552]? = some (.cells #[.int .i64 (wrap64 (rd t539 0)), .int .u64 (rd t539 1), .int .u64 (rd t539 2), .int .u64 (rd t539 3), .int .u64 (rd t539 4), .int .u64 (rd t539 5), .int .u64 (rd t539 6), .bool (t553 == 1), u553008, .string (⟨#[]⟩ : ByteArray)] 57 (0, 0))) := ⟨by rw [← hq_]; exact (by (with_reducible repeat (first | refine blk_drewN ?_ _ | refine blk_drew ?_ | refine blk_alloc ?_ _)); exact BK552.out)⟩; have n3_ : Aside0 (Below w.heap.size w wr) := ⟨by rw [← hq_]; exact (by repeat (first | (with_reducible first | exact HB.out | apply below_alloc | apply pw_below_drewN | apply below_drew1 | refine below_set ?_ GE538.out | refine below_set ?_ GE552.out) | exact HB.out))⟩; clear HO_553008 BK538 BK552 HB hq_; have HO_553008 := n0_; have BK538 := n1_; have BK552 := n2_; have HB := n3_; clear n0_ n1_ n2_ n3_)); have hnb82 := NB552_538.out; have hnc82 := NB538_552.out; have hcz83_0 : wr.cell? ⟨gb552, 0, none⟩ = some (.int .i64 (wrap64 (rd t539 0))) := (blk_cell BK552.out 0).trans rfl; have hcz83_1 : wr.cell? ⟨gb552, 1, none⟩ = some (.int .u64 (rd t539 1)) := (blk_cell BK552.out 1).trans rfl; have hcz83_2 : wr.cell? ⟨gb552, 2, none⟩ = some (.int .u64 (rd t539 2)) := (blk_cell BK552.out 2).trans rfl; have hcz83_3 : wr.cell? ⟨gb552, 3, none⟩ = some (.int .u64 (rd t539 3)) := (blk_cell BK552.out 3).trans rfl; have hcz83_4 : wr.cell? ⟨gb552, 4, none⟩ = some (.int .u64 (rd t539 4)) := (blk_cell BK552.out 4).trans rfl; have hcz83_5 : wr.cell? ⟨gb552, 5, none⟩ = some (.int .u64 (rd t539 5)) := (blk_cell BK552.out 5).trans rfl; have hcz83_6 : wr.cell? ⟨gb552, 6, none⟩ = some (.int .u64 (rd t539 6)) := (blk_cell BK552.out 6).trans rfl; have hcz83_7 : wr.cell? ⟨gb552, 7, none⟩ = some (.bool (t553 == 1)) := (blk_cell BK552.out 7).trans rfl; have hcz83_8 : wr.cell? ⟨gb552, 8, none⟩ = some (u553008) := (blk_cell BK552.out 8).trans rfl; have hcz83_9 : wr.cell? ⟨gb552, 9, none⟩ = some (.string (⟨#[]⟩ : ByteArray)) := (blk_cell BK552.out 9).trans rfl; have hfz83_0 := blk_frozen BK552.out 0; have hfz83_1 := blk_frozen BK552.out 1; have hfz83_2 := blk_frozen BK552.out 2; have hfz83_3 := blk_frozen BK552.out 3; have hfz83_4 := blk_frozen BK552.out 4; have hfz83_5 := blk_frozen BK552.out 5; have hfz83_6 := blk_frozen BK552.out 6; have hfz83_7 := blk_frozen BK552.out 7; have hfz83_8 := blk_frozen BK552.out 8; have hfz83_9 := blk_frozen BK552.out 9))
                                            have n0_ : Aside0 (Kd.R k75 75 (wr.setCell ⟨gb552, 9, none⟩ (.string t559)) w.heap.size (fun _ => True) u553008 x553008_4) := ⟨by (with_reducible repeat (first | apply Kd.R_alloc | apply Kd.R_drewN | apply Kd.R_drew)); exact Kd.R_mono (Kd.R_far (p := ⟨gb552, 9, none⟩) (Kd.R_types HO_553008.out BK552.out (by decide)) (fun _ hk => hk.2) (.string t559)) (fun _ hk => trivial)⟩
                                            have n1_ : Aside0 ((wr.setCell ⟨gb552, 9, none⟩ (.string t559)).heap[gb538]? = some (.cells #[.int .i64 x539000_4, .int .u64 x539001_4, .int .u64 x539002_4, .int .u64 x539003_4, .int .u64 x539004_4, .int .u64 x539005_4, .int .u64 x539006_4, .bool x539007_4, .slice none 0 0, .string x539009_4] 57 (0, 0))) := ⟨by (with_reducible repeat (first | refine blk_drewN ?_ _ | refine blk_drew ?_ | refine blk_alloc ?_ _)); refine blk_far ?_ NB538_552.out _; (with_reducible repeat (first | refine blk_drewN ?_ _ | refine blk_drew ?_ | refine blk_alloc ?_ _)); exact BK538.out⟩
                                            have n2_ : Aside0 ((wr.setCell ⟨gb552, 9, none⟩ (.string t559)).heap[gb552]? = some (.cells #[.int .i64 (wrap64 (rd t539 0)), .int .u64 (rd t539 1), .int .u64 (rd t539 2), .int .u64 (rd t539 3), .int .u64 (rd t539 4), .int .u64 (rd t539 5), .int .u64 (rd t539 6), .bool (t553 == 1), u553008, .string t559] 57 (0, 0))) := ⟨by (with_reducible repeat (first | refine blk_drewN ?_ _ | refine blk_drew ?_ | refine blk_alloc ?_ _)); refine blk_put (cs := #[.int .i64 (wrap64 (rd t539 0)), .int .u64 (rd t539 1), .int .u64 (rd t539 2), .int .u64 (rd t539 3), .int .u64 (rd t539 4), .int .u64 (rd t539 5), .int .u64 (rd t539 6), .bool (t553 == 1), u553008, .string (⟨#[]⟩ : ByteArray)]) ?_ 9 _ rfl; (with_reducible repeat (first | refine blk_drewN ?_ _ | refine blk_drew ?_ | refine blk_alloc ?_ _)); exact BK552.out⟩
                                            have n3_ : Aside0 (Below w.heap.size w (wr.setCell ⟨gb552, 9, none⟩ (.string t559))) := ⟨by repeat (first | (with_reducible first | exact HB.out | apply below_alloc | apply pw_below_drewN | apply below_drew1 | refine below_set ?_ GE538.out | refine below_set ?_ GE552.out) | exact HB.out)⟩
                                            (try clear HO_553008)
                                            (try clear BK538)
                                            (try clear BK552)
                                            (try clear HB)
                                            generalize (wr.setCell ⟨gb552, 9, none⟩ (.string t559)) = w84 at n0_ n1_ n2_ n3_ ⊢
                                            have HO_553008 := n0_
                                            have BK538 := n1_
                                            have BK552 := n2_
                                            have HB := n3_
                                            clear n0_ n1_ n2_ n3_
                                            have n0_ := Aside0.mk (Kd.R_drew HO_553008.out)
                                            have n1_ := Aside0.mk (blk_drew BK538.out)
                                            have n2_ := Aside0.mk (blk_drew BK552.out)
                                            have n3_ := Aside0.mk (below_drew1 HB.out)
                                            clear HO_553008
                                            clear BK538
                                            clear BK552
                                            clear HB
                                            have HO_553008 := n0_
                                            have BK538 := n1_
                                            have BK552 := n2_
                                            have HB := n3_
                                            clear n0_ n1_ n2_ n3_
                                            obtain ⟨Ao94, co94, eo94⟩ := Kd.R_slice HO_553008.out
                                            (first | subst eo94 | (injection eo94 with f1_ f2_ f3_; have f4_ := f1_.symm; have f5_ := f3_.symm; clear f1_ f2_ f3_; subst f4_; subst f5_))
                                            refine start_ (n := 13) (S := fun w' => w'.cell? ⟨gb552, 0, none⟩ = some (.int .i64 (wrap64 (rd t539 0))) ∧ w'.cell? ⟨gb552, 1, none⟩ = some (.int .u64 (rd t539 1)) ∧ w'.cell? ⟨gb552, 2, none⟩ = some (.int .u64 (rd t539 2)) ∧ w'.cell? ⟨gb552, 3, none⟩ = some (.int .u64 (rd t539 3)) ∧ w'.cell? ⟨gb552, 4, none⟩ = some (.int .u64 (rd t539 4)) ∧ w'.cell? ⟨gb552, 5, none⟩ = some (.int .u64 (rd t539 5)) ∧ w'.cell? ⟨gb552, 6, none⟩ = some (.int .u64 (rd t539 6)) ∧ w'.cell? ⟨gb552, 7, none⟩ = some (.bool (t553 == 1)) ∧ w'.cell? ⟨gb552, 8, none⟩ = some (.slice Ao94 x553008_4.length co94) ∧ w'.cell? ⟨gb552, 9, none⟩ = some (.string t559)) (ds := []) #[false, false, false, false, false, false, false, false, false, false, false, false, false] (by kernel_rfl) rfl rfl ⟨(blk_cell BK552.out 0).trans rfl, (blk_cell BK552.out 1).trans rfl, (blk_cell BK552.out 2).trans rfl, (blk_cell BK552.out 3).trans rfl, (blk_cell BK552.out 4).trans rfl, (blk_cell BK552.out 5).trans rfl, (blk_cell BK552.out 6).trans rfl, (blk_cell BK552.out 7).trans rfl, (blk_cell BK552.out 8).trans rfl, (blk_cell BK552.out 9).trans rfl⟩ (fun hHeld => ?_); refine with_tabW post_take.tab22 post_take.bits22 (fun HT_ HW_ => ?_)
                                            generalize w84.drew = w85 at HO_553008 BK538 BK552 HB hHeld ⊢
                                            refine pure_ (i := 1) (N := some 129) (v := ?_) (a' := ?_) #[false, true, false, false, false, false, false, false, false, false, false, false, false] rfl rfl (any_of HT_.out (by kernel_rfl)) (fun _ _ _ h => h) (Or.inl ⟨by rfl, ?_⟩) ?_ ?_
                                            rotate_left
                                            · intro w'
                                              go_simp
                                              with_reducible rfl
                                            rotate_left
                                            · simp only [Act.put, List.setIfInBounds_toArray, List.set_cons_zero, List.set_cons_succ, i64_w, i32_w]
                                              rfl
                                            refine pure_ (i := 2) (N := some 130) (v := ?_) (a' := ?_) #[false, true, true, false, false, false, false, false, false, false, false, false, false] rfl rfl (any_of HT_.out (by kernel_rfl)) (fun _ _ _ h => h) (Or.inl ⟨by rfl, ?_⟩) ?_ ?_
                                            rotate_left
                                            · intro w'
                                              go_simp
                                              with_reducible rfl
                                            rotate_left
                                            · simp only [Act.put, List.setIfInBounds_toArray, List.set_cons_zero, List.set_cons_succ, i64_w, i32_w]
                                              rfl
                                            refine pure_ (i := 3) (N := some 131) (v := ?_) (a' := ?_) #[false, true, true, true, false, false, false, false, false, false, false, false, false] rfl rfl (any_of HT_.out (by kernel_rfl)) (fun _ _ _ h => h) (Or.inl ⟨by rfl, ?_⟩) ?_ ?_
                                            rotate_left
                                            · intro w'
                                              go_simp
                                              with_reducible rfl
                                            rotate_left
                                            · simp only [Act.put, List.setIfInBounds_toArray, List.set_cons_zero, List.set_cons_succ, i64_w, i32_w]
                                              rfl
                                            refine pure_ (i := 4) (N := some 132) (v := ?_) (a' := ?_) #[false, true, true, true, true, false, false, false, false, false, false, false, false] rfl rfl (any_of HT_.out (by kernel_rfl)) (fun _ _ _ h => h) (Or.inl ⟨by rfl, ?_⟩) ?_ ?_
                                            rotate_left
                                            · intro w'
                                              go_simp
                                              with_reducible rfl
                                            rotate_left
                                            · simp only [Act.put, List.setIfInBounds_toArray, List.set_cons_zero, List.set_cons_succ, i64_w, i32_w]
                                              rfl
                                            refine pure_ (i := 5) (N := some 133) (v := ?_) (a' := ?_) #[false, true, true, true, true, true, false, false, false, false, false, false, false] rfl rfl (any_of HT_.out (by kernel_rfl)) (fun _ _ _ h => h) (Or.inl ⟨by rfl, ?_⟩) ?_ ?_
                                            rotate_left
                                            · intro w'
                                              go_simp
                                              with_reducible rfl
                                            rotate_left
                                            · simp only [Act.put, List.setIfInBounds_toArray, List.set_cons_zero, List.set_cons_succ, i64_w, i32_w]
                                              rfl
                                            refine pure_ (i := 6) (N := some 134) (v := ?_) (a' := ?_) #[false, true, true, true, true, true, true, false, false, false, false, false, false] rfl rfl (any_of HT_.out (by kernel_rfl)) (fun _ _ _ h => h) (Or.inl ⟨by rfl, ?_⟩) ?_ ?_
                                            rotate_left
                                            · intro w'
                                              go_simp
                                              with_reducible rfl
                                            rotate_left
                                            · simp only [Act.put, List.setIfInBounds_toArray, List.set_cons_zero, List.set_cons_succ, i64_w, i32_w]
                                              rfl
                                            refine pure_ (i := 7) (N := some 135) (v := ?_) (a' := ?_) #[false, true, true, true, true, true, true, true, false, false, false, false, false] rfl rfl (any_of HT_.out (by kernel_rfl)) (fun _ _ _ h => h) (Or.inl ⟨by rfl, ?_⟩) ?_ ?_
                                            rotate_left
                                            · intro w'
                                              go_simp
                                              with_reducible rfl
                                            rotate_left
                                            · simp only [Act.put, List.setIfInBounds_toArray, List.set_cons_zero, List.set_cons_succ, i64_w, i32_w]
                                              rfl
                                            refine pure_ (i := 8) (N := some 136) (v := undef) (a' := ?_) #[false, true, true, true, true, true, true, true, true, false, false, false, false] rfl rfl (any_of HT_.out (by kernel_rfl)) (fun _ _ _ h => h) (Or.inr ⟨by rfl, rfl⟩) ?_ ?_
                                            rotate_left
                                            · simp only [Act.put, List.setIfInBounds_toArray, List.set_cons_zero, List.set_cons_succ, i64_w, i32_w]
                                              rfl
                                            refine pure_ (i := 9) (N := some 137) (v := undef) (a' := ?_) #[false, true, true, true, true, true, true, true, true, true, false, false, false] rfl rfl (any_of HT_.out (by kernel_rfl)) (fun _ _ _ h => h) (Or.inr ⟨by rfl, rfl⟩) ?_ ?_
                                            rotate_left
                                            · simp only [Act.put, List.setIfInBounds_toArray, List.set_cons_zero, List.set_cons_succ, i64_w, i32_w]
                                              rfl
                                            refine pure_ (i := 10) (N := some 138) (v := ?_) (a' := ?_) #[false, true, true, true, true, true, true, true, true, true, true, false, false] rfl rfl (any_of HT_.out (by kernel_rfl)) (fun _ _ _ h => h) (Or.inl ⟨by rfl, ?_⟩) ?_ ?_
                                            rotate_left
                                            · intro w'
                                              go_simp
                                              with_reducible rfl
                                            rotate_left
                                            · simp only [Act.put, List.setIfInBounds_toArray, List.set_cons_zero, List.set_cons_succ, i64_w, i32_w]
                                              rfl
                                            refine take_ (i := 0) (N := some 128) (v := ?_) (a' := ?_) #[true, true, true, true, true, true, true, true, true, true, true, false, false] rfl rfl (take_ofW HT_.out HW_.out (by kernel_rfl)) (fun _ _ _ h => h) (Or.inl ⟨by rfl, ?_⟩) hHeld ?_ ?_
                                            rotate_left
                                            · rintro w' ⟨s0, s1, s2, s3, s4, s5, s6, s7, s8, s9⟩
                                              go_simp
                                              with_reducible rfl
                                            rotate_left
                                            · simp only [Act.put, List.setIfInBounds_toArray, List.set_cons_zero, List.set_cons_succ, i64_w, i32_w]
                                              rfl
                                            refine one_ (i := 11) (N := none) #[true, true, true, true, true, true, true, true, true, true, true, true, false] rfl rfl (one_of HT_.out (by kernel_rfl)) (by decide) (fun K hK => ?_)
                                            refine skip_ (w1 := w85.setRow gb538 #[.int .i64 (wrap64 (rd t539 0)), .int .u64 (rd t539 1), .int .u64 (rd t539 2), .int .u64 (rd t539 3), .int .u64 (rd t539 4), .int .u64 (rd t539 5), .int .u64 (rd t539 6), .bool (t553 == 1), .slice Ao94 x553008_4.length co94, .string t559]) (by rfl) rfl (by refine exec_store10r rfl rfl ?hs_ BK538.out (by kernel_rfl) ?h1_; (case hs_ => rfl); (case h1_ => rfl)) ?_
                                            have n0_ := Aside0.mk (setRow_heap w85 gb538 _ #[.int .i64 (wrap64 (rd t539 0)), .int .u64 (rd t539 1), .int .u64 (rd t539 2), .int .u64 (rd t539 3), .int .u64 (rd t539 4), .int .u64 (rd t539 5), .int .u64 (rd t539 6), .bool (t553 == 1), .slice Ao94 x553008_4.length co94, .string t559] 57 (0, 0) BK538.out)
                                            have n1_ := Aside0.mk (row_blk BK552.out NB552_538.out #[.int .i64 (wrap64 (rd t539 0)), .int .u64 (rd t539 1), .int .u64 (rd t539 2), .int .u64 (rd t539 3), .int .u64 (rd t539 4), .int .u64 (rd t539 5), .int .u64 (rd t539 6), .bool (t553 == 1), .slice Ao94 x553008_4.length co94, .string t559])
                                            have n2_ := Aside0.mk (row_below HB.out GE538.out #[.int .i64 (wrap64 (rd t539 0)), .int .u64 (rd t539 1), .int .u64 (rd t539 2), .int .u64 (rd t539 3), .int .u64 (rd t539 4), .int .u64 (rd t539 5), .int .u64 (rd t539 6), .bool (t553 == 1), .slice Ao94 x553008_4.length co94, .string t559])
                                            have n3_ := Aside0.mk (row_R HO_553008.out BK538.out (by decide) #[.int .i64 (wrap64 (rd t539 0)), .int .u64 (rd t539 1), .int .u64 (rd t539 2), .int .u64 (rd t539 3), .int .u64 (rd t539 4), .int .u64 (rd t539 5), .int .u64 (rd t539 6), .bool (t553 == 1), .slice Ao94 x553008_4.length co94, .string t559])
                                            clear BK552 BK538 HB HO_553008
                                            generalize w85.setRow gb538 #[.int .i64 (wrap64 (rd t539 0)), .int .u64 (rd t539 1), .int .u64 (rd t539 2), .int .u64 (rd t539 3), .int .u64 (rd t539 4), .int .u64 (rd t539 5), .int .u64 (rd t539 6), .bool (t553 == 1), .slice Ao94 x553008_4.length co94, .string t559] = wZ_ at n0_ n1_ n2_ n3_ ⊢
                                            have BK538 := n0_
                                            have BK552 := n1_
                                            have HB := n2_
                                            have HO_553008 := n3_
                                            clear n0_ n1_ n2_ n3_
                                            refine hK.out _ _ ⟨(blk_cell BK552.out 0).trans rfl, (blk_cell BK552.out 1).trans rfl, (blk_cell BK552.out 2).trans rfl, (blk_cell BK552.out 3).trans rfl, (blk_cell BK552.out 4).trans rfl, (blk_cell BK552.out 5).trans rfl, (blk_cell BK552.out 6).trans rfl, (blk_cell BK552.out 7).trans rfl, (blk_cell BK552.out 8).trans rfl, (blk_cell BK552.out 9).trans rfl⟩ (fun hHeld => ?_)
                                            clear hK K
                                            refine pure_ (i := 12) (N := some 3) (v := ?_) (a' := ?_) #[true, true, true, true, true, true, true, true, true, true, true, true, true] rfl rfl (any_of HT_.out (by kernel_rfl)) (fun _ _ _ h => h) (Or.inl ⟨by rfl, ?_⟩) ?_ ?_
                                            rotate_left
                                            · intro w'
                                              go_simp
                                              with_reducible rfl
                                            rotate_left
                                            · simp only [Act.put, List.setIfInBounds_toArray, List.set_cons_zero, List.set_cons_succ, i64_w, i32_w]
                                              rfl
                                            refine done_ (done_of HT_.out (by kernel_rfl)) ?_
                                            try go_wp2
                                            refine bodyPost_ret (results_ct rfl _ _ gb538 57 #[.int .i64 (wrap64 (rd t539 0)), .int .u64 (rd t539 1), .int .u64 (rd t539 2), .int .u64 (rd t539 3), .int .u64 (rd t539 4), .int .u64 (rd t539 5), .int .u64 (rd t539 6), .bool (t553 == 1), .slice Ao94 x553008_4.length co94, .string t559] (0, 0) _ rfl (by (with_reducible repeat (first | refine blk_drewN ?_ _ | refine blk_drew ?_ | refine blk_alloc ?_ _)); exact BK538.out) Try.underlying57 rfl (by kernel_rfl)) rfl ?_
                                            exact ⟨_, by first | rfl | (simp [errW_none, errW_some] <;> rfl) | (simp [*, errW_none, errW_some] <;> rfl), by (with_reducible repeat (first | apply Kd.R_alloc | apply Kd.R_drewN | apply Kd.R_drew)); exact HO_553008.out, by repeat (first | (with_reducible first | exact HB.out | apply below_alloc | apply pw_below_drewN | apply below_drew1 | refine below_set ?_ GE538.out | refine below_set ?_ GE552.out) | exact HB.out)⟩
                                        · rw [if_neg c63] at H
                                          have c63b0 : (t561 == 0) = false := beq_eq_false_iff_ne.mpr c63
                                          have c63b1 : (t561 != 0) = true := bne_iff_ne.mpr c63
                                          simp only [Option.some.injEq, Prod.mk.injEq] at H
                                          obtain ⟨rfl, rfl, rfl, rfl, rfl, rfl, rfl, rfl, rfl, rfl, rfl⟩ := H
                                          try go_wp2_with (first | ((with_reducible refine gate_callee (f := 93) rfl ?_); refine goesL_ (some 122) rfl rfl Try.func93 (by kernel_rfl) rfl #[.string x0_4] rfl (by (try simp only [List.map_toArray, List.map_cons, List.map_nil]); first | done | rfl | (simp only [List.length_drop, List.length_take]; rfl)) ?_; (with_reducible refine (pack_TakeText.calls k4 x0_4 t559 t560 t561 _ A62.out).mono ?_); rintro e w' ⟨rfl, ⟨nd, rfl⟩⟩; refine ⟨_, rfl, ?_⟩; (try (rw [drewN_self wr]; generalize hq_ : World.drewN wr _ = wr; have n0_ : Aside0 (Kd.R k75 75 wr w.heap.size (fun _ => True) u553008 x553008_4) := ⟨by rw [← hq_]; exact (by (with_reducible repeat (first | apply Kd.R_alloc | apply Kd.R_drewN | apply Kd.R_drew)); exact HO_553008.out)⟩; have n1_ : Aside0 (wr.heap[gb538]? = some (.cells #[.int .i64 x539000_4, .int .u64 x539001_4, .int .u64 x539002_4, .int .u64 x539003_4, .int .u64 x539004_4, .int .u64 x539005_4, .int .u64 x539006_4, .bool x539007_4, .slice none 0 0, .string x539009_4] 57 (0, 0))) := ⟨by rw [← hq_]; exact (by (with_reducible repeat (first | refine blk_drewN ?_ _ | refine blk_drew ?_ | refine blk_alloc ?_ _)); exact BK538.out)⟩; have n2_ : Aside0 (wr.heap[gb552]? = some (.cells #[.int .i64 (wrap64 (rd t539 0)), .int .u64 (rd t539 1), .int .u64 (rd t539 2), .int .u64 (rd t539 3), .int .u64 (rd t539 4), .int .u64 (rd t539 5), .int .u64 (rd t539 6), .bool (t553 == 1), u553008, .string (⟨#[]⟩ : ByteArray)] 57 (0, 0))) := ⟨by rw [← hq_]; exact (by (with_reducible repeat (first | refine blk_drewN ?_ _ | refine blk_drew ?_ | refine blk_alloc ?_ _)); exact BK552.out)⟩; have n3_ : Aside0 (Below w.heap.size w wr) := ⟨by rw [← hq_]; exact (by repeat (first | (with_reducible first | exact HB.out | apply below_alloc | apply pw_below_drewN | apply below_drew1 | refine below_set ?_ GE538.out | refine below_set ?_ GE552.out) | exact HB.out))⟩; clear HO_553008 BK538 BK552 HB hq_; have HO_553008 := n0_; have BK538 := n1_; have BK552 := n2_; have HB := n3_; clear n0_ n1_ n2_ n3_)); have hnb97 := NB552_538.out; have hnc97 := NB538_552.out; have hcz98_0 : wr.cell? ⟨gb552, 0, none⟩ = some (.int .i64 (wrap64 (rd t539 0))) := (blk_cell BK552.out 0).trans rfl; have hcz98_1 : wr.cell? ⟨gb552, 1, none⟩ = some (.int .u64 (rd t539 1)) := (blk_cell BK552.out 1).trans rfl; have hcz98_2 : wr.cell? ⟨gb552, 2, none⟩ = some (.int .u64 (rd t539 2)) := (blk_cell BK552.out 2).trans rfl; have hcz98_3 : wr.cell? ⟨gb552, 3, none⟩ = some (.int .u64 (rd t539 3)) := (blk_cell BK552.out 3).trans rfl; have hcz98_4 : wr.cell? ⟨gb552, 4, none⟩ = some (.int .u64 (rd t539 4)) := (blk_cell BK552.out 4).trans rfl; have hcz98_5 : wr.cell? ⟨gb552, 5, none⟩ = some (.int .u64 (rd t539 5)) := (blk_cell BK552.out 5).trans rfl; have hcz98_6 : wr.cell? ⟨gb552, 6, none⟩ = some (.int .u64 (rd t539 6)) := (blk_cell BK552.out 6).trans rfl; have hcz98_7 : wr.cell? ⟨gb552, 7, none⟩ = some (.bool (t553 == 1)) := (blk_cell BK552.out 7).trans rfl; have hcz98_8 : wr.cell? ⟨gb552, 8, none⟩ = some (u553008) := (blk_cell BK552.out 8).trans rfl; have hcz98_9 : wr.cell? ⟨gb552, 9, none⟩ = some (.string (⟨#[]⟩ : ByteArray)) := (blk_cell BK552.out 9).trans rfl; have hfz98_0 := blk_frozen BK552.out 0; have hfz98_1 := blk_frozen BK552.out 1; have hfz98_2 := blk_frozen BK552.out 2; have hfz98_3 := blk_frozen BK552.out 3; have hfz98_4 := blk_frozen BK552.out 4; have hfz98_5 := blk_frozen BK552.out 5; have hfz98_6 := blk_frozen BK552.out 6; have hfz98_7 := blk_frozen BK552.out 7; have hfz98_8 := blk_frozen BK552.out 8; have hfz98_9 := blk_frozen BK552.out 9))
                                          have n0_ : Aside0 (Kd.R k75 75 (wr.setCell ⟨gb552, 9, none⟩ (.string t559)) w.heap.size (fun _ => True) u553008 x553008_4) := ⟨by (with_reducible repeat (first | apply Kd.R_alloc | apply Kd.R_drewN | apply Kd.R_drew)); exact Kd.R_mono (Kd.R_far (p := ⟨gb552, 9, none⟩) (Kd.R_types HO_553008.out BK552.out (by decide)) (fun _ hk => hk.2) (.string t559)) (fun _ hk => trivial)⟩
                                          have n1_ : Aside0 ((wr.setCell ⟨gb552, 9, none⟩ (.string t559)).heap[gb538]? = some (.cells #[.int .i64 x539000_4, .int .u64 x539001_4, .int .u64 x539002_4, .int .u64 x539003_4, .int .u64 x539004_4, .int .u64 x539005_4, .int .u64 x539006_4, .bool x539007_4, .slice none 0 0, .string x539009_4] 57 (0, 0))) := ⟨by (with_reducible repeat (first | refine blk_drewN ?_ _ | refine blk_drew ?_ | refine blk_alloc ?_ _)); refine blk_far ?_ NB538_552.out _; (with_reducible repeat (first | refine blk_drewN ?_ _ | refine blk_drew ?_ | refine blk_alloc ?_ _)); exact BK538.out⟩
                                          have n2_ : Aside0 ((wr.setCell ⟨gb552, 9, none⟩ (.string t559)).heap[gb552]? = some (.cells #[.int .i64 (wrap64 (rd t539 0)), .int .u64 (rd t539 1), .int .u64 (rd t539 2), .int .u64 (rd t539 3), .int .u64 (rd t539 4), .int .u64 (rd t539 5), .int .u64 (rd t539 6), .bool (t553 == 1), u553008, .string t559] 57 (0, 0))) := ⟨by (with_reducible repeat (first | refine blk_drewN ?_ _ | refine blk_drew ?_ | refine blk_alloc ?_ _)); refine blk_put (cs := #[.int .i64 (wrap64 (rd t539 0)), .int .u64 (rd t539 1), .int .u64 (rd t539 2), .int .u64 (rd t539 3), .int .u64 (rd t539 4), .int .u64 (rd t539 5), .int .u64 (rd t539 6), .bool (t553 == 1), u553008, .string (⟨#[]⟩ : ByteArray)]) ?_ 9 _ rfl; (with_reducible repeat (first | refine blk_drewN ?_ _ | refine blk_drew ?_ | refine blk_alloc ?_ _)); exact BK552.out⟩
                                          have n3_ : Aside0 (Below w.heap.size w (wr.setCell ⟨gb552, 9, none⟩ (.string t559))) := ⟨by repeat (first | (with_reducible first | exact HB.out | apply below_alloc | apply pw_below_drewN | apply below_drew1 | refine below_set ?_ GE538.out | refine below_set ?_ GE552.out) | exact HB.out)⟩
                                          (try clear HO_553008)
                                          (try clear BK538)
                                          (try clear BK552)
                                          (try clear HB)
                                          generalize (wr.setCell ⟨gb552, 9, none⟩ (.string t559)) = w99 at n0_ n1_ n2_ n3_ ⊢
                                          have HO_553008 := n0_
                                          have BK538 := n1_
                                          have BK552 := n2_
                                          have HB := n3_
                                          clear n0_ n1_ n2_ n3_
                                          have n0_ := Aside0.mk (Kd.R_drew HO_553008.out)
                                          have n1_ := Aside0.mk (blk_drew BK538.out)
                                          have n2_ := Aside0.mk (blk_drew BK552.out)
                                          have n3_ := Aside0.mk (below_drew1 HB.out)
                                          clear HO_553008
                                          clear BK538
                                          clear BK552
                                          clear HB
                                          have HO_553008 := n0_
                                          have BK538 := n1_
                                          have BK552 := n2_
                                          have HB := n3_
                                          clear n0_ n1_ n2_ n3_
                                          obtain ⟨Ao109, co109, eo109⟩ := Kd.R_slice HO_553008.out
                                          (first | subst eo109 | (injection eo109 with f1_ f2_ f3_; have f4_ := f1_.symm; have f5_ := f3_.symm; clear f1_ f2_ f3_; subst f4_; subst f5_))
                                          refine start_ (n := 13) (S := fun w' => w'.cell? ⟨gb552, 0, none⟩ = some (.int .i64 (wrap64 (rd t539 0))) ∧ w'.cell? ⟨gb552, 1, none⟩ = some (.int .u64 (rd t539 1)) ∧ w'.cell? ⟨gb552, 2, none⟩ = some (.int .u64 (rd t539 2)) ∧ w'.cell? ⟨gb552, 3, none⟩ = some (.int .u64 (rd t539 3)) ∧ w'.cell? ⟨gb552, 4, none⟩ = some (.int .u64 (rd t539 4)) ∧ w'.cell? ⟨gb552, 5, none⟩ = some (.int .u64 (rd t539 5)) ∧ w'.cell? ⟨gb552, 6, none⟩ = some (.int .u64 (rd t539 6)) ∧ w'.cell? ⟨gb552, 7, none⟩ = some (.bool (t553 == 1)) ∧ w'.cell? ⟨gb552, 8, none⟩ = some (.slice Ao109 x553008_4.length co109) ∧ w'.cell? ⟨gb552, 9, none⟩ = some (.string t559)) (ds := []) #[false, false, false, false, false, false, false, false, false, false, false, false, false] (by kernel_rfl) rfl rfl ⟨(blk_cell BK552.out 0).trans rfl, (blk_cell BK552.out 1).trans rfl, (blk_cell BK552.out 2).trans rfl, (blk_cell BK552.out 3).trans rfl, (blk_cell BK552.out 4).trans rfl, (blk_cell BK552.out 5).trans rfl, (blk_cell BK552.out 6).trans rfl, (blk_cell BK552.out 7).trans rfl, (blk_cell BK552.out 8).trans rfl, (blk_cell BK552.out 9).trans rfl⟩ (fun hHeld => ?_); refine with_tabW post_take.tab22 post_take.bits22 (fun HT_ HW_ => ?_)
                                          generalize w99.drew = w100 at HO_553008 BK538 BK552 HB hHeld ⊢
                                          refine pure_ (i := 1) (N := some 129) (v := ?_) (a' := ?_) #[false, true, false, false, false, false, false, false, false, false, false, false, false] rfl rfl (any_of HT_.out (by kernel_rfl)) (fun _ _ _ h => h) (Or.inl ⟨by rfl, ?_⟩) ?_ ?_
                                          rotate_left
                                          · intro w'
                                            go_simp
                                            with_reducible rfl
                                          rotate_left
                                          · simp only [Act.put, List.setIfInBounds_toArray, List.set_cons_zero, List.set_cons_succ, i64_w, i32_w]
                                            rfl
                                          refine pure_ (i := 2) (N := some 130) (v := ?_) (a' := ?_) #[false, true, true, false, false, false, false, false, false, false, false, false, false] rfl rfl (any_of HT_.out (by kernel_rfl)) (fun _ _ _ h => h) (Or.inl ⟨by rfl, ?_⟩) ?_ ?_
                                          rotate_left
                                          · intro w'
                                            go_simp
                                            with_reducible rfl
                                          rotate_left
                                          · simp only [Act.put, List.setIfInBounds_toArray, List.set_cons_zero, List.set_cons_succ, i64_w, i32_w]
                                            rfl
                                          refine pure_ (i := 3) (N := some 131) (v := ?_) (a' := ?_) #[false, true, true, true, false, false, false, false, false, false, false, false, false] rfl rfl (any_of HT_.out (by kernel_rfl)) (fun _ _ _ h => h) (Or.inl ⟨by rfl, ?_⟩) ?_ ?_
                                          rotate_left
                                          · intro w'
                                            go_simp
                                            with_reducible rfl
                                          rotate_left
                                          · simp only [Act.put, List.setIfInBounds_toArray, List.set_cons_zero, List.set_cons_succ, i64_w, i32_w]
                                            rfl
                                          refine pure_ (i := 4) (N := some 132) (v := undef) (a' := ?_) #[false, true, true, true, true, false, false, false, false, false, false, false, false] rfl rfl (any_of HT_.out (by kernel_rfl)) (fun _ _ _ h => h) (Or.inr ⟨by rfl, rfl⟩) ?_ ?_
                                          rotate_left
                                          · simp only [Act.put, List.setIfInBounds_toArray, List.set_cons_zero, List.set_cons_succ, i64_w, i32_w]
                                            rfl
                                          refine pure_ (i := 5) (N := some 133) (v := undef) (a' := ?_) #[false, true, true, true, true, true, false, false, false, false, false, false, false] rfl rfl (any_of HT_.out (by kernel_rfl)) (fun _ _ _ h => h) (Or.inr ⟨by rfl, rfl⟩) ?_ ?_
                                          rotate_left
                                          · simp only [Act.put, List.setIfInBounds_toArray, List.set_cons_zero, List.set_cons_succ, i64_w, i32_w]
                                            rfl
                                          refine pure_ (i := 6) (N := some 134) (v := ?_) (a' := ?_) #[false, true, true, true, true, true, true, false, false, false, false, false, false] rfl rfl (any_of HT_.out (by kernel_rfl)) (fun _ _ _ h => h) (Or.inl ⟨by rfl, ?_⟩) ?_ ?_
                                          rotate_left
                                          · intro w'
                                            go_simp
                                            with_reducible rfl
                                          rotate_left
                                          · simp only [Act.put, List.setIfInBounds_toArray, List.set_cons_zero, List.set_cons_succ, i64_w, i32_w]
                                            rfl
                                          refine pure_ (i := 7) (N := some 135) (v := ?_) (a' := ?_) #[false, true, true, true, true, true, true, true, false, false, false, false, false] rfl rfl (any_of HT_.out (by kernel_rfl)) (fun _ _ _ h => h) (Or.inl ⟨by rfl, ?_⟩) ?_ ?_
                                          rotate_left
                                          · intro w'
                                            go_simp
                                            with_reducible rfl
                                          rotate_left
                                          · simp only [Act.put, List.setIfInBounds_toArray, List.set_cons_zero, List.set_cons_succ, i64_w, i32_w]
                                            rfl
                                          refine pure_ (i := 8) (N := some 136) (v := undef) (a' := ?_) #[false, true, true, true, true, true, true, true, true, false, false, false, false] rfl rfl (any_of HT_.out (by kernel_rfl)) (fun _ _ _ h => h) (Or.inr ⟨by rfl, rfl⟩) ?_ ?_
                                          rotate_left
                                          · simp only [Act.put, List.setIfInBounds_toArray, List.set_cons_zero, List.set_cons_succ, i64_w, i32_w]
                                            rfl
                                          refine pure_ (i := 9) (N := some 137) (v := undef) (a' := ?_) #[false, true, true, true, true, true, true, true, true, true, false, false, false] rfl rfl (any_of HT_.out (by kernel_rfl)) (fun _ _ _ h => h) (Or.inr ⟨by rfl, rfl⟩) ?_ ?_
                                          rotate_left
                                          · simp only [Act.put, List.setIfInBounds_toArray, List.set_cons_zero, List.set_cons_succ, i64_w, i32_w]
                                            rfl
                                          refine pure_ (i := 10) (N := some 138) (v := ?_) (a' := ?_) #[false, true, true, true, true, true, true, true, true, true, true, false, false] rfl rfl (any_of HT_.out (by kernel_rfl)) (fun _ _ _ h => h) (Or.inl ⟨by rfl, ?_⟩) ?_ ?_
                                          rotate_left
                                          · intro w'
                                            go_simp
                                            with_reducible rfl
                                          rotate_left
                                          · simp only [Act.put, List.setIfInBounds_toArray, List.set_cons_zero, List.set_cons_succ, i64_w, i32_w]
                                            rfl
                                          refine take_ (i := 0) (N := some 128) (v := ?_) (a' := ?_) #[true, true, true, true, true, true, true, true, true, true, true, false, false] rfl rfl (take_ofW HT_.out HW_.out (by kernel_rfl)) (fun _ _ _ h => h) (Or.inl ⟨by rfl, ?_⟩) hHeld ?_ ?_
                                          rotate_left
                                          · rintro w' ⟨s0, s1, s2, s3, s4, s5, s6, s7, s8, s9⟩
                                            go_simp
                                            with_reducible rfl
                                          rotate_left
                                          · simp only [Act.put, List.setIfInBounds_toArray, List.set_cons_zero, List.set_cons_succ, i64_w, i32_w]
                                            rfl
                                          refine one_ (i := 11) (N := none) #[true, true, true, true, true, true, true, true, true, true, true, true, false] rfl rfl (one_of HT_.out (by kernel_rfl)) (by decide) (fun K hK => ?_)
                                          refine skip_ (w1 := w100.setRow gb538 #[.int .i64 (wrap64 (rd t539 0)), .int .u64 (rd t539 1), .int .u64 (rd t539 2), .int .u64 (rd t539 3), .int .u64 (rd t539 4), .int .u64 (rd t539 5), .int .u64 (rd t539 6), .bool (t553 == 1), .slice Ao109 x553008_4.length co109, .string t559]) (by rfl) rfl (by refine exec_store10r rfl rfl ?hs_ BK538.out (by kernel_rfl) ?h1_; (case hs_ => rfl); (case h1_ => rfl)) ?_
                                          have n0_ := Aside0.mk (setRow_heap w100 gb538 _ #[.int .i64 (wrap64 (rd t539 0)), .int .u64 (rd t539 1), .int .u64 (rd t539 2), .int .u64 (rd t539 3), .int .u64 (rd t539 4), .int .u64 (rd t539 5), .int .u64 (rd t539 6), .bool (t553 == 1), .slice Ao109 x553008_4.length co109, .string t559] 57 (0, 0) BK538.out)
                                          have n1_ := Aside0.mk (row_blk BK552.out NB552_538.out #[.int .i64 (wrap64 (rd t539 0)), .int .u64 (rd t539 1), .int .u64 (rd t539 2), .int .u64 (rd t539 3), .int .u64 (rd t539 4), .int .u64 (rd t539 5), .int .u64 (rd t539 6), .bool (t553 == 1), .slice Ao109 x553008_4.length co109, .string t559])
                                          have n2_ := Aside0.mk (row_below HB.out GE538.out #[.int .i64 (wrap64 (rd t539 0)), .int .u64 (rd t539 1), .int .u64 (rd t539 2), .int .u64 (rd t539 3), .int .u64 (rd t539 4), .int .u64 (rd t539 5), .int .u64 (rd t539 6), .bool (t553 == 1), .slice Ao109 x553008_4.length co109, .string t559])
                                          have n3_ := Aside0.mk (row_R HO_553008.out BK538.out (by decide) #[.int .i64 (wrap64 (rd t539 0)), .int .u64 (rd t539 1), .int .u64 (rd t539 2), .int .u64 (rd t539 3), .int .u64 (rd t539 4), .int .u64 (rd t539 5), .int .u64 (rd t539 6), .bool (t553 == 1), .slice Ao109 x553008_4.length co109, .string t559])
                                          clear BK552 BK538 HB HO_553008
                                          generalize w100.setRow gb538 #[.int .i64 (wrap64 (rd t539 0)), .int .u64 (rd t539 1), .int .u64 (rd t539 2), .int .u64 (rd t539 3), .int .u64 (rd t539 4), .int .u64 (rd t539 5), .int .u64 (rd t539 6), .bool (t553 == 1), .slice Ao109 x553008_4.length co109, .string t559] = wZ_ at n0_ n1_ n2_ n3_ ⊢
                                          have BK538 := n0_
                                          have BK552 := n1_
                                          have HB := n2_
                                          have HO_553008 := n3_
                                          clear n0_ n1_ n2_ n3_
                                          refine hK.out _ _ ⟨(blk_cell BK552.out 0).trans rfl, (blk_cell BK552.out 1).trans rfl, (blk_cell BK552.out 2).trans rfl, (blk_cell BK552.out 3).trans rfl, (blk_cell BK552.out 4).trans rfl, (blk_cell BK552.out 5).trans rfl, (blk_cell BK552.out 6).trans rfl, (blk_cell BK552.out 7).trans rfl, (blk_cell BK552.out 8).trans rfl, (blk_cell BK552.out 9).trans rfl⟩ (fun hHeld => ?_)
                                          clear hK K
                                          refine pure_ (i := 12) (N := some 3) (v := ?_) (a' := ?_) #[true, true, true, true, true, true, true, true, true, true, true, true, true] rfl rfl (any_of HT_.out (by kernel_rfl)) (fun _ _ _ h => h) (Or.inl ⟨by rfl, ?_⟩) ?_ ?_
                                          rotate_left
                                          · intro w'
                                            go_simp
                                            with_reducible rfl
                                          rotate_left
                                          · simp only [Act.put, List.setIfInBounds_toArray, List.set_cons_zero, List.set_cons_succ, i64_w, i32_w]
                                            rfl
                                          refine done_ (done_of HT_.out (by kernel_rfl)) ?_
                                          try go_wp2
                                          refine bodyPost_ret (results_ct rfl _ _ gb538 57 #[.int .i64 (wrap64 (rd t539 0)), .int .u64 (rd t539 1), .int .u64 (rd t539 2), .int .u64 (rd t539 3), .int .u64 (rd t539 4), .int .u64 (rd t539 5), .int .u64 (rd t539 6), .bool (t553 == 1), .slice Ao109 x553008_4.length co109, .string t559] (0, 0) _ rfl (by (with_reducible repeat (first | refine blk_drewN ?_ _ | refine blk_drew ?_ | refine blk_alloc ?_ _)); exact BK538.out) Try.underlying57 rfl (by kernel_rfl)) rfl ?_
                                          exact ⟨_, by first | rfl | (simp [errW_none, errW_some] <;> rfl) | (simp [*, errW_none, errW_some] <;> rfl), by (with_reducible repeat (first | apply Kd.R_alloc | apply Kd.R_drewN | apply Kd.R_drew)); exact HO_553008.out, by repeat (first | (with_reducible first | exact HB.out | apply below_alloc | apply pw_below_drewN | apply below_drew1 | refine below_set ?_ GE538.out | refine below_set ?_ GE552.out) | exact HB.out)⟩
                    · rw [if_neg c19] at H
                      exact absurd H (by simp)
                  · rw [if_neg c18] at H
                    exact absurd H (by simp)
                · rw [if_neg c17] at H
                  exact absurd H (by simp)
              · rw [if_neg c16] at H
                exact absurd H (by simp)
            · rw [if_neg c15] at H
              exact absurd H (by simp)
          · rw [if_neg c14] at H
            exact absurd H (by simp)
        · rw [if_neg c13] at H
          exact absurd H (by simp)
end Go.Proofs.Ytfjhlcbpogihmaa.Pr
