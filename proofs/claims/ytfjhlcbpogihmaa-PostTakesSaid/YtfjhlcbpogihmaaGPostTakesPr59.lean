/- What the program's functions compute, and that they compute it: printed out of the translation by a program of this session's (px.py, over the kit's printer). Conditions: none. -/
import Derived.Test.YtfjhlcbpogihmaaKPostTakes1
import Derived.Test.YtfjhlcbpogihmaaGPostTakesPr32
import Derived.Test.YtfjhlcbpogihmaaGPostTakesPr50
namespace Go.Proofs.Ytfjhlcbpogihmaa.Pr
open Go.RowKit Go.Proofs.YtfjhlcbpogihmaaW.PrintWords Go.Proofs.YtfjhlcbpogihmaaW.PrintLast Go.Proofs.YtfjhlcbpogihmaaW.PrintMore
attribute [local go_sem] max2_int max_four
set_option linter.unusedVariables false
set_option linter.unusedSimpArgs false
/-! ### ferruleref17_Take: function 40 -/
mutual
def ferruleref17_Take.j0 : Nat → ByteArray → Bool → Option (Int × Int × Int × Int × Int × Int × Int × Bool × (List (S75)) × ByteArray × Int)
  | 0, _, _ => none
  | k + 1, x4, x40 => if x40 = true then (some (0, 0, 0, 0, 0, 0, 0, false, ([] : List (S75)), (⟨#[]⟩ : ByteArray), 3)) else ((ferruleref01_TakeNums.f k x4 7).bind fun bt597 => (if bt597.2.2 = 0 then (if (bt597.1.length : Int) = 7 then (if 0 < (bt597.1.length : Int) then (ferruleref17_Take.j1 k bt597.1 bt597.2.1 (decide ((rd bt597.1 0) > 7))) else (none)) else (ferruleref17_Take.j1 k bt597.1 bt597.2.1 true)) else (ferruleref17_Take.j1 k bt597.1 bt597.2.1 true)))
def ferruleref17_Take.j1 : Nat → List Int → ByteArray → Bool → Option (Int × Int × Int × Int × Int × Int × Int × Bool × (List (S75)) × ByteArray × Int)
  | 0, _, _, _ => none
  | k + 1, x7, x8, x60 => if x60 = true then (some (0, 0, 0, 0, 0, 0, 0, false, ([] : List (S75)), (⟨#[]⟩ : ByteArray), 3)) else (if 0 < (x7.length : Int) then (if 1 < (x7.length : Int) then (if 2 < (x7.length : Int) then (if 3 < (x7.length : Int) then (if 4 < (x7.length : Int) then (if 5 < (x7.length : Int) then (if 6 < (x7.length : Int) then ((ferruleref01_TakeNum.f k x8).bind fun bt611 => (if bt611.2.2 = 0 then (ferruleref17_Take.j2 k bt611.1 bt611.2.1 (decide (bt611.1 > 1)) (wrap64 (rd x7 0)) (rd x7 1) (rd x7 2) (rd x7 3) (rd x7 4) (rd x7 5) (rd x7 6) false (⟨#[]⟩ : ByteArray)) else (ferruleref17_Take.j2 k bt611.1 bt611.2.1 true (wrap64 (rd x7 0)) (rd x7 1) (rd x7 2) (rd x7 3) (rd x7 4) (rd x7 5) (rd x7 6) false (⟨#[]⟩ : ByteArray)))) else (none)) else (none)) else (none)) else (none)) else (none)) else (none)) else (none))
def ferruleref17_Take.j2 : Nat → Int → ByteArray → Bool → Int → Int → Int → Int → Int → Int → Int → Bool → ByteArray → Option (Int × Int × Int × Int × Int × Int × Int × Bool × (List (S75)) × ByteArray × Int)
  | 0, _, _, _, _, _, _, _, _, _, _, _, _ => none
  | k + 1, x11, x12, x96, x611000, x611001, x611002, x611003, x611004, x611005, x611006, x611007, x611009 => if x96 = true then (some (0, 0, 0, 0, 0, 0, 0, false, ([] : List (S75)), (⟨#[]⟩ : ByteArray), 3)) else ((ferruleref01_TakeNum.f k x12).bind fun bt614 => (if bt614.2.2 = 0 then (ferruleref17_Take.j3 k x11 bt614.1 bt614.2.1 (decide (bt614.1 > 8)) x611000 x611001 x611002 x611003 x611004 x611005 x611006 x611007 x611009) else (ferruleref17_Take.j3 k x11 bt614.1 bt614.2.1 true x611000 x611001 x611002 x611003 x611004 x611005 x611006 x611007 x611009)))
def ferruleref17_Take.j3 : Nat → Int → Int → ByteArray → Bool → Int → Int → Int → Int → Int → Int → Int → Bool → ByteArray → Option (Int × Int × Int × Int × Int × Int × Int × Bool × (List (S75)) × ByteArray × Int)
  | 0, _, _, _, _, _, _, _, _, _, _, _, _, _ => none
  | k + 1, x11, x14, x15, x109, x611000, x611001, x611002, x611003, x611004, x611005, x611006, x611007, x611009 => if x109 = true then (some (0, 0, 0, 0, 0, 0, 0, false, ([] : List (S75)), (⟨#[]⟩ : ByteArray), 3)) else (ferruleref17_Take.l0 k x14 x15 0 x611000 x611001 x611002 x611003 x611004 x611005 x611006 (x11 == 1) ([] : List (S75)) x611009)
def ferruleref17_Take.l0 : Nat → Int → ByteArray → Int → Int → Int → Int → Int → Int → Int → Int → Bool → List (S75) → ByteArray → Option (Int × Int × Int × Int × Int × Int × Int × Bool × (List (S75)) × ByteArray × Int)
  | 0, _, _, _, _, _, _, _, _, _, _, _, _, _ => none
  | k + 1, x14, x15, x17, x611000, x611001, x611002, x611003, x611004, x611005, x611006, x611007, x611008, x611009 => if x17 < x14 then ((ferruleref01_TakeNum.f k x15).bind fun bt617 => ((ferruleref01_TakeText.f k bt617.2.1).bind fun bt620 => (if bt617.2.2 = 0 then (if bt620.2.2 = 0 then (if x611008.length < 5864062014805 then (ferruleref17_Take.l0 k x14 bt620.2.1 (IntKind.u64.wrap (x17 + 1)) x611000 x611001 x611002 x611003 x611004 x611005 x611006 x611007 (x611008 ++ [(⟨bt617.1, bt620.1⟩ : S75)]) x611009) else (none)) else (some (0, 0, 0, 0, 0, 0, 0, false, ([] : List (S75)), (⟨#[]⟩ : ByteArray), 3))) else (some (0, 0, 0, 0, 0, 0, 0, false, ([] : List (S75)), (⟨#[]⟩ : ByteArray), 3))))) else ((ferruleref01_TakeText.f k x15).bind fun bt626 => ((ferruleref17_May.f k x611000 x611001 x611002 x611003 x611004 x611005 x611006 x611007 x611008 bt626.1).bind fun t629 => (if bt626.2.2 = 0 then (if (bt626.2.1.size : Int) > 0 then (some (0, 0, 0, 0, 0, 0, 0, false, ([] : List (S75)), (⟨#[]⟩ : ByteArray), 3)) else (if t629 = true then (some (x611000, x611001, x611002, x611003, x611004, x611005, x611006, x611007, x611008, bt626.1, 0)) else (some (0, 0, 0, 0, 0, 0, 0, false, ([] : List (S75)), (⟨#[]⟩ : ByteArray), 3)))) else (some (0, 0, 0, 0, 0, 0, 0, false, ([] : List (S75)), (⟨#[]⟩ : ByteArray), 3)))))
end
def ferruleref17_Take.f (k : Nat) (a0 : ByteArray) : Option (Int × Int × Int × Int × Int × Int × Int × Bool × (List (S75)) × ByteArray × Int) := (ferruleref02_Take.f k a0).bind fun bt594 => (if bt594.2.2 = 0 then (ferruleref17_Take.j0 k bt594.1 (decide ((bt594.2.1.size : Int) > 0))) else (ferruleref17_Take.j0 k bt594.1 true))
def ferruleref17_Take.T7 : Bool × List (List Nat × List Nat) := (true, [([], []), ([0], [0]), ([1], [1]), ([2], [2]), ([], []), ([4], [4]), ([5], [5]), ([], []), ([7], [7]), ([8], [8]), ([], []), ([10], [10]), ([11], [11]), ([], []), ([13], [13]), ([14], [14]), ([], []), ([16], [16]), ([17], [17]), ([], []), ([19], [19]), ([20], [20]), ([3, 6, 9, 12, 15, 18, 21], [3, 6, 9, 12, 15, 18, 21]), ([], []), ([23, 22, 0, 1, 2, 3, 4, 5, 6, 7, 8, 9, 10, 11, 12, 13, 14, 15, 16, 17, 18, 19, 20, 21, 22, 23], [22, 23])])
def ferruleref17_Take.B7 : List Nat := [0, 1, 3, 7, 0, 16, 48, 0, 128, 384, 0, 1024, 3072, 0, 8192, 24576, 0, 65536, 196608, 0, 524288, 1572864, 4194303, 0, 16777215]
theorem ferruleref17_Take.tab7 : rtab .any (opsOf Try.f40 7) = ferruleref17_Take.T7 := by kernel_rfl
theorem ferruleref17_Take.bits7 : waitsOk ferruleref17_Take.T7.2 ferruleref17_Take.B7 = true := by kernel_rfl
set_option maxHeartbeats 8000000 in
set_option maxRecDepth 100000 in
theorem ferruleref17_Take.calls (k : Nat) (a0 : ByteArray) (r1 : Int) (r2 : Int) (r3 : Int) (r4 : Int) (r5 : Int) (r6 : Int) (r7 : Int) (r8 : Bool) (r9 : List (S75)) (r10 : ByteArray) (r11 : Int) (w : World) (h : ferruleref17_Take.f k a0 = some (r1, r2, r3, r4, r5, r6, r7, r8, r9, r10, r11)) :
    Calls Try.prog 40 #[.string a0] w fun e w' => ∃ v8_ : Value, e = .returned (.tuple #[.agg #[.int .i64 r1, .int .u64 r2, .int .u64 r3, .int .u64 r4, .int .u64 r5, .int .u64 r6, .int .u64 r7, .bool r8, v8_, .string r10], .int .i64 r11]) ∧ Kd.R k75 75 w' w.heap.size (fun _ => True) v8_ r9 ∧ Below w.heap.size w w' := by
  have hu57 := Try.underlying57
  have hu75 := Try.underlying75
  have HB := Aside0.mk (Below.refl w.heap.size w)
  have H : ((ferruleref02_Take.f k a0).bind fun bt594 => (if bt594.2.2 = 0 then (ferruleref17_Take.j0 k bt594.1 (decide ((bt594.2.1.size : Int) > 0))) else (ferruleref17_Take.j0 k bt594.1 true))) = some (r1, r2, r3, r4, r5, r6, r7, r8, r9, r10, r11) := h
  clear h
  replace H := Option.bind_eq_some_iff.mp H
  obtain ⟨⟨t594, t595, t596⟩, A20, H⟩ := H
  replace H : (if t596 = 0 then (ferruleref17_Take.j0 k t594 (decide ((t595.size : Int) > 0))) else (ferruleref17_Take.j0 k t594 true)) = some (r1, r2, r3, r4, r5, r6, r7, r8, r9, r10, r11) := H
  have A2 := Aside0.mk A20
  clear A20
  have HC3 := Aside0.mk H
  clear H
  go_enter Try.func40, Try.ntmps40
  go_upto_region 2 with (first | ((with_reducible refine gate_dst (N := 2) rfl ?_); (try (refine gate_guard (by rfl) ?_; dsimp only)); refine box_event ?hg (N := 2) ?hd (cs := #[.int .i64 0, .int .u64 0, .int .u64 0, .int .u64 0, .int .u64 0, .int .u64 0, .int .u64 0, .bool false, .slice none 0 0, .string (⟨#[]⟩ : ByteArray)]) (t := 57) ?hr ?_; (case hd => rfl); (case hg => rfl); (case hr => first | (go_simp; done) | (go_simp; rfl)); intro gb593 hg w4 hbox hb; have n0_ := Aside0.mk (below_step (by repeat (first | (with_reducible first | exact HB.out | apply below_alloc | apply pw_below_drewN | apply below_drew1) | exact HB.out | exact Below.refl _ _)) hb); have n1_ := Aside0.mk (hbox); have n2_ := Aside0.mk ((by rw [hg]; exact (below_size (by repeat (first | (with_reducible first | exact HB.out | apply below_alloc | apply pw_below_drewN | apply below_drew1) | exact HB.out))) : w.heap.size ≤ gb593)); have n3_ := Aside0.mk ((by rw [hg]; exact (below_size (by repeat (first | (with_reducible first | exact HB.out | apply below_alloc | apply pw_below_drewN | apply below_drew1) | exact HB.out))) : w.heap.size ≤ gb593)); clear HB; have HB := n0_; have BK593 := n1_; have GW593 := n2_; have GE593 := n3_; clear n0_ n1_ n2_ n3_; clear hb hbox hg) | ((with_reducible refine gate_callee (f := 70) rfl ?_); refine goesL_ (some 30) rfl rfl Try.func70 (by kernel_rfl) rfl #[.string a0] rfl (by (try simp only [List.map_toArray, List.map_cons, List.map_nil]); first | done | rfl | (simp only [List.length_drop, List.length_take]; rfl)) ?_; (with_reducible refine (ferruleref02_Take.calls k a0 t594 t595 t596 _ A2.out).mono ?_); rintro e w5 ⟨rfl, hb⟩; refine ⟨_, rfl, ?_⟩; have n0_ := Aside0.mk (blk_below (g := gb593) (o := .cells #[.int .i64 0, .int .u64 0, .int .u64 0, .int .u64 0, .int .u64 0, .int .u64 0, .int .u64 0, .bool false, .slice none 0 0, .string (⟨#[]⟩ : ByteArray)] 57 (0, 0)) (by (with_reducible repeat (first | refine blk_drewN ?_ _ | refine blk_drew ?_ | refine blk_alloc ?_ _)); exact BK593.out) hb); have n1_ := Aside0.mk (below_step (by repeat (first | (with_reducible first | exact HB.out | apply below_alloc | apply pw_below_drewN | apply below_drew1 | refine below_set ?_ GE593.out) | exact HB.out | exact Below.refl _ _)) hb); clear BK593; clear HB; have BK593 := n0_; have HB := n1_; clear n0_ n1_; (try clear hb); (try clear hb2); (try clear hk); (try clear hi)))
  (try simp only [Act.put, List.setIfInBounds_toArray, List.set_cons_zero, List.set_cons_succ])
  go_cut [40] (fun v40 wc => ∃ (kq : Nat) (x40_2 : Bool), v40 = .bool x40_2 ∧ Aside0 (ferruleref17_Take.j0 kq t594 x40_2 = some (r1, r2, r3, r4, r5, r6, r7, r8, r9, r10, r11)) ∧ Aside0 (kq ≤ k) ∧ Aside0 (wc.heap[gb593]? = some (.cells #[.int .i64 0, .int .u64 0, .int .u64 0, .int .u64 0, .int .u64 0, .int .u64 0, .int .u64 0, .bool false, (.slice none 0 0), .string (⟨#[]⟩ : ByteArray)] 57 (0, 0))) ∧ Aside0 (Below w.heap.size w wc))
  case first =>
    have H := HC3.out
    clear HC3
    by_cases c6 : t596 = 0
    · rw [if_pos c6] at H
      have c6b0 : (t596 == 0) = true := beq_iff_eq.mpr c6
      have c6b1 : (t596 != 0) = false := bne_eq_false_iff_eq.mpr c6
      clear c6
      (first | rw [c6b0] | (simp only [i64_w, i32_w]; rw [c6b0]) | skip)
      have H' := Aside0.mk H
      clear H
      go_wp2
      go_meet
      case rel => exact ⟨_, (decide ((t595.size : Int) > 0)), (by first | rfl | (simp; done) | (simp [*]; done)), H', ⟨by first | omega | exact Nat.le_refl _⟩, ⟨by (with_reducible repeat (first | refine blk_drewN ?_ _ | refine blk_drew ?_ | refine blk_alloc ?_ _)); exact BK593.out⟩, ⟨by repeat (first | (with_reducible first | exact HB.out | apply below_alloc | apply pw_below_drewN | apply below_drew1 | refine below_set ?_ GE593.out) | exact HB.out)⟩⟩
    · rw [if_neg c6] at H
      have c6b0 : (t596 == 0) = false := beq_eq_false_iff_ne.mpr c6
      have c6b1 : (t596 != 0) = true := bne_iff_ne.mpr c6
      (first | rw [c6b0] | (simp only [i64_w, i32_w]; rw [c6b0]) | skip)
      have H' := Aside0.mk H
      clear H
      go_wp2
      go_meet
      case rel => exact ⟨_, (true), (by first | rfl | (simp; done) | (simp [*]; done)), H', ⟨by first | omega | exact Nat.le_refl _⟩, ⟨by (with_reducible repeat (first | refine blk_drewN ?_ _ | refine blk_drew ?_ | refine blk_alloc ?_ _)); exact BK593.out⟩, ⟨by repeat (first | (with_reducible first | exact HB.out | apply below_alloc | apply pw_below_drewN | apply below_drew1 | refine below_set ?_ GE593.out) | exact HB.out)⟩⟩
  case rest =>
    clear HC3
    try clear p2
    try clear c4
    try clear c6
    try clear c6b0
    try clear c6b1
    obtain ⟨kq, x40_2, rfl, HA, HJ2, BK593, HB⟩ := hcut
    cases kq with
    | zero => exact absurd HA.out (by simp [ferruleref17_Take.j0])
    | succ kj2 =>
      have H := HA.out
      clear HA
      simp only [ferruleref17_Take.j0] at H
      by_cases c7 : x40_2 = true
      · subst c7
        have H1 : (some (0, 0, 0, 0, 0, 0, 0, false, ([] : List (S75)), (⟨#[]⟩ : ByteArray), 3)) = some (r1, r2, r3, r4, r5, r6, r7, r8, r9, r10, r11) := by rw [if_pos rfl] at H; exact H
        clear H
        have H := H1
        clear H1
        simp only [Option.some.injEq, Prod.mk.injEq] at H
        obtain ⟨rfl, rfl, rfl, rfl, rfl, rfl, rfl, rfl, rfl, rfl, rfl⟩ := H
        have hcz8_0 : wc.cell? ⟨gb593, 0, none⟩ = some (.int .i64 0) := (blk_cell BK593.out 0).trans rfl
        have hcz8_1 : wc.cell? ⟨gb593, 1, none⟩ = some (.int .u64 0) := (blk_cell BK593.out 1).trans rfl
        have hcz8_2 : wc.cell? ⟨gb593, 2, none⟩ = some (.int .u64 0) := (blk_cell BK593.out 2).trans rfl
        have hcz8_3 : wc.cell? ⟨gb593, 3, none⟩ = some (.int .u64 0) := (blk_cell BK593.out 3).trans rfl
        have hcz8_4 : wc.cell? ⟨gb593, 4, none⟩ = some (.int .u64 0) := (blk_cell BK593.out 4).trans rfl
        have hcz8_5 : wc.cell? ⟨gb593, 5, none⟩ = some (.int .u64 0) := (blk_cell BK593.out 5).trans rfl
        have hcz8_6 : wc.cell? ⟨gb593, 6, none⟩ = some (.int .u64 0) := (blk_cell BK593.out 6).trans rfl
        have hcz8_7 : wc.cell? ⟨gb593, 7, none⟩ = some (.bool false) := (blk_cell BK593.out 7).trans rfl
        have hcz8_8 : wc.cell? ⟨gb593, 8, none⟩ = some (.slice none 0 0) := (blk_cell BK593.out 8).trans rfl
        have hcz8_9 : wc.cell? ⟨gb593, 9, none⟩ = some (.string (⟨#[]⟩ : ByteArray)) := (blk_cell BK593.out 9).trans rfl
        have hfz8_0 := blk_frozen BK593.out 0
        have hfz8_1 := blk_frozen BK593.out 1
        have hfz8_2 := blk_frozen BK593.out 2
        have hfz8_3 := blk_frozen BK593.out 3
        have hfz8_4 := blk_frozen BK593.out 4
        have hfz8_5 := blk_frozen BK593.out 5
        have hfz8_6 := blk_frozen BK593.out 6
        have hfz8_7 := blk_frozen BK593.out 7
        have hfz8_8 := blk_frozen BK593.out 8
        have hfz8_9 := blk_frozen BK593.out 9
        go_wp2
        refine bodyPost_ret (results_ct rfl _ _ gb593 57 #[.int .i64 0, .int .u64 0, .int .u64 0, .int .u64 0, .int .u64 0, .int .u64 0, .int .u64 0, .bool false, .slice none 0 0, .string (⟨#[]⟩ : ByteArray)] (0, 0) _ rfl (by (with_reducible repeat (first | refine blk_drewN ?_ _ | refine blk_drew ?_ | refine blk_alloc ?_ _)); refine blk_put (cs := #[.int .i64 0, .int .u64 0, .int .u64 0, .int .u64 0, .int .u64 0, .int .u64 0, .int .u64 0, .bool false, .slice none 0 0, .string (⟨#[]⟩ : ByteArray)]) ?_ 9 _ rfl; (with_reducible repeat (first | refine blk_drewN ?_ _ | refine blk_drew ?_ | refine blk_alloc ?_ _)); refine blk_put (cs := #[.int .i64 0, .int .u64 0, .int .u64 0, .int .u64 0, .int .u64 0, .int .u64 0, .int .u64 0, .bool false, .slice none 0 0, .string (⟨#[]⟩ : ByteArray)]) ?_ 8 _ rfl; (with_reducible repeat (first | refine blk_drewN ?_ _ | refine blk_drew ?_ | refine blk_alloc ?_ _)); refine blk_put (cs := #[.int .i64 0, .int .u64 0, .int .u64 0, .int .u64 0, .int .u64 0, .int .u64 0, .int .u64 0, .bool false, .slice none 0 0, .string (⟨#[]⟩ : ByteArray)]) ?_ 7 _ rfl; (with_reducible repeat (first | refine blk_drewN ?_ _ | refine blk_drew ?_ | refine blk_alloc ?_ _)); refine blk_put (cs := #[.int .i64 0, .int .u64 0, .int .u64 0, .int .u64 0, .int .u64 0, .int .u64 0, .int .u64 0, .bool false, .slice none 0 0, .string (⟨#[]⟩ : ByteArray)]) ?_ 6 _ rfl; (with_reducible repeat (first | refine blk_drewN ?_ _ | refine blk_drew ?_ | refine blk_alloc ?_ _)); refine blk_put (cs := #[.int .i64 0, .int .u64 0, .int .u64 0, .int .u64 0, .int .u64 0, .int .u64 0, .int .u64 0, .bool false, .slice none 0 0, .string (⟨#[]⟩ : ByteArray)]) ?_ 5 _ rfl; (with_reducible repeat (first | refine blk_drewN ?_ _ | refine blk_drew ?_ | refine blk_alloc ?_ _)); refine blk_put (cs := #[.int .i64 0, .int .u64 0, .int .u64 0, .int .u64 0, .int .u64 0, .int .u64 0, .int .u64 0, .bool false, .slice none 0 0, .string (⟨#[]⟩ : ByteArray)]) ?_ 4 _ rfl; (with_reducible repeat (first | refine blk_drewN ?_ _ | refine blk_drew ?_ | refine blk_alloc ?_ _)); refine blk_put (cs := #[.int .i64 0, .int .u64 0, .int .u64 0, .int .u64 0, .int .u64 0, .int .u64 0, .int .u64 0, .bool false, .slice none 0 0, .string (⟨#[]⟩ : ByteArray)]) ?_ 3 _ rfl; (with_reducible repeat (first | refine blk_drewN ?_ _ | refine blk_drew ?_ | refine blk_alloc ?_ _)); refine blk_put (cs := #[.int .i64 0, .int .u64 0, .int .u64 0, .int .u64 0, .int .u64 0, .int .u64 0, .int .u64 0, .bool false, .slice none 0 0, .string (⟨#[]⟩ : ByteArray)]) ?_ 2 _ rfl; (with_reducible repeat (first | refine blk_drewN ?_ _ | refine blk_drew ?_ | refine blk_alloc ?_ _)); refine blk_put (cs := #[.int .i64 0, .int .u64 0, .int .u64 0, .int .u64 0, .int .u64 0, .int .u64 0, .int .u64 0, .bool false, .slice none 0 0, .string (⟨#[]⟩ : ByteArray)]) ?_ 1 _ rfl; (with_reducible repeat (first | refine blk_drewN ?_ _ | refine blk_drew ?_ | refine blk_alloc ?_ _)); refine blk_put (cs := #[.int .i64 0, .int .u64 0, .int .u64 0, .int .u64 0, .int .u64 0, .int .u64 0, .int .u64 0, .bool false, .slice none 0 0, .string (⟨#[]⟩ : ByteArray)]) ?_ 0 _ rfl; (with_reducible repeat (first | refine blk_drewN ?_ _ | refine blk_drew ?_ | refine blk_alloc ?_ _)); exact BK593.out) Try.underlying57 rfl (by kernel_rfl)) rfl ?_
        exact ⟨_, by first | rfl | (simp [errW_none, errW_some] <;> rfl) | (simp [*, errW_none, errW_some] <;> rfl), by first | exact Kd.R_nil _ _ _ _ _ | exact Kd.N_nil _ _ _ _ _ | exact Kd.V_nil _ _ _ _ _ | exact Kd.Q_nil _ _ _ _ _ | exact Kd.S_nil _ _ _ _ _, by repeat (first | (with_reducible first | exact HB.out | apply below_alloc | apply pw_below_drewN | apply below_drew1 | refine below_set ?_ GE593.out) | exact HB.out)⟩
      · replace c7 := Bool.eq_false_iff.mpr c7
        subst c7
        have H1 : ((ferruleref01_TakeNums.f kj2 t594 7).bind fun bt597 => (if bt597.2.2 = 0 then (if (bt597.1.length : Int) = 7 then (if 0 < (bt597.1.length : Int) then (ferruleref17_Take.j1 kj2 bt597.1 bt597.2.1 (decide ((rd bt597.1 0) > 7))) else (none)) else (ferruleref17_Take.j1 kj2 bt597.1 bt597.2.1 true)) else (ferruleref17_Take.j1 kj2 bt597.1 bt597.2.1 true))) = some (r1, r2, r3, r4, r5, r6, r7, r8, r9, r10, r11) := by rw [if_neg (show ¬ (false = true) by decide)] at H; exact H
        clear H
        have H := H1
        clear H1
        replace H := Option.bind_eq_some_iff.mp H
        obtain ⟨⟨t597, t598, t599⟩, A90, H⟩ := H
        replace H : (if t599 = 0 then (if (t597.length : Int) = 7 then (if 0 < (t597.length : Int) then (ferruleref17_Take.j1 kj2 t597 t598 (decide ((rd t597 0) > 7))) else (none)) else (ferruleref17_Take.j1 kj2 t597 t598 true)) else (ferruleref17_Take.j1 kj2 t597 t598 true)) = some (r1, r2, r3, r4, r5, r6, r7, r8, r9, r10, r11) := H
        have A9 := Aside0.mk A90
        clear A90
        have HC10 := Aside0.mk H
        clear H
        go_upto_region 5 with (first | ((with_reducible refine gate_callee (f := 74) rfl ?_); refine goesL_ (some 44) rfl rfl Try.func74 (by kernel_rfl) rfl #[.string t594, .int .i64 7] rfl (by (try simp only [List.map_toArray, List.map_cons, List.map_nil]); first | done | rfl | (simp only [List.length_drop, List.length_take]; rfl)) ?_; (with_reducible refine (ferruleref01_TakeNums.calls kj2 t594 7 t597 t598 t599 _ A9.out).mono ?_); rintro e w11 ⟨v600, rfl, ho0, hb⟩; refine ⟨_, rfl, ?_⟩; have n0_ := Aside0.mk (Kd.R_lower ho0 (below_size (by repeat (first | (with_reducible first | exact HB.out | apply below_alloc | apply pw_below_drewN | apply below_drew1 | refine below_set ?_ GE593.out) | exact HB.out)))); have n1_ := Aside0.mk (blk_below (g := gb593) (o := .cells #[.int .i64 0, .int .u64 0, .int .u64 0, .int .u64 0, .int .u64 0, .int .u64 0, .int .u64 0, .bool false, .slice none 0 0, .string (⟨#[]⟩ : ByteArray)] 57 (0, 0)) (by (with_reducible repeat (first | refine blk_drewN ?_ _ | refine blk_drew ?_ | refine blk_alloc ?_ _)); exact BK593.out) hb); have n2_ := Aside0.mk (below_step (by repeat (first | (with_reducible first | exact HB.out | apply below_alloc | apply pw_below_drewN | apply below_drew1 | refine below_set ?_ GE593.out) | exact HB.out | exact Below.refl _ _)) hb); clear BK593; clear HB; have HO601 := n0_; have BK593 := n1_; have HB := n2_; clear n0_ n1_ n2_; (try clear hb); (try clear hb2); (try clear hk); (try clear hi); (try clear ho0)))
        (try simp only [Act.put, List.setIfInBounds_toArray, List.set_cons_zero, List.set_cons_succ])
        go_cut [60] (fun v60 wc => ∃ (kq : Nat) (x60_9 : Bool), v60 = .bool x60_9 ∧ Aside0 (ferruleref17_Take.j1 kq t597 t598 x60_9 = some (r1, r2, r3, r4, r5, r6, r7, r8, r9, r10, r11)) ∧ Aside0 (kq ≤ kj2) ∧ Aside0 (Kd.R (Kd.int .u64) 25 wc w.heap.size (fun _ => True) v600 t597) ∧ Aside0 (wc.heap[gb593]? = some (.cells #[.int .i64 0, .int .u64 0, .int .u64 0, .int .u64 0, .int .u64 0, .int .u64 0, .int .u64 0, .bool false, (.slice none 0 0), .string (⟨#[]⟩ : ByteArray)] 57 (0, 0))) ∧ Aside0 (Below w.heap.size w wc))
        case first =>
          have H := HC10.out
          clear HC10
          by_cases c12 : t599 = 0
          · rw [if_pos c12] at H
            have c12b0 : (t599 == 0) = true := beq_iff_eq.mpr c12
            have c12b1 : (t599 != 0) = false := bne_eq_false_iff_eq.mpr c12
            clear c12
            (first | rw [c12b0] | (simp only [i64_w, i32_w]; rw [c12b0]) | skip)
            by_cases c13 : (t597.length : Int) = 7
            · rw [if_pos c13] at H
              have c13b0 : ((t597.length : Int) == 7) = true := beq_iff_eq.mpr c13
              have c13b1 : ((t597.length : Int) != 7) = false := bne_eq_false_iff_eq.mpr c13
              clear c13
              by_cases c14 : 0 < (t597.length : Int)
              · rw [if_pos c14] at H
                have c14b0 : decide (0 < (t597.length : Int)) = true := decide_eq_true c14
                have c14b1 : decide (0 < t597.length) = true := decide_eq_true (by omega)
                clear c14
                have H' := Aside0.mk H
                clear H
                obtain ⟨Ao15, co15, eo15⟩ := Kd.R_slice HO601.out
                subst eo15
                have p602 : 0 ≤ (0 : Int) := (by omega)
                have q602 : 0 < (t597.length : Int) := of_decide_eq_true (by first | (with_reducible assumption) | assumption)
                obtain ⟨ad602, e602, hx602_0⟩ := Kd.at_int (Kd.R_reads' HO601.out).2.2 0 p602 q602
                cases e602
                have qi602 : (0 < t597.length) = True := eq_true (by omega)
                (try rw [show ((0 : Int)).toNat = 0 from rfl] at hx602_0)
                (try rw [Addr.add_zero'] at hx602_0)
                replace p602 := eq_true p602
                replace q602 := eq_true q602
                go_wp2
                go_meet
                case rel => exact ⟨_, (decide ((rd t597 0) > 7)), (by first | rfl | (simp; done) | (simp [*]; done)), H', ⟨by have := HJ2.out; first | omega | exact Nat.le_refl _⟩, ⟨by (with_reducible repeat (first | apply Kd.R_alloc | apply Kd.R_drewN | apply Kd.R_drew)); exact HO601.out⟩, ⟨by (with_reducible repeat (first | refine blk_drewN ?_ _ | refine blk_drew ?_ | refine blk_alloc ?_ _)); exact BK593.out⟩, ⟨by repeat (first | (with_reducible first | exact HB.out | apply below_alloc | apply pw_below_drewN | apply below_drew1 | refine below_set ?_ GE593.out) | exact HB.out)⟩⟩
              · rw [if_neg c14] at H
                exact absurd H (by simp)
            · rw [if_neg c13] at H
              have c13b0 : ((t597.length : Int) == 7) = false := beq_eq_false_iff_ne.mpr c13
              have c13b1 : ((t597.length : Int) != 7) = true := bne_iff_ne.mpr c13
              have H' := Aside0.mk H
              clear H
              obtain ⟨Ao16, co16, eo16⟩ := Kd.R_slice HO601.out
              subst eo16
              go_wp2
              go_meet
              case rel => exact ⟨_, (true), (by first | rfl | (simp; done) | (simp [*]; done)), H', ⟨by have := HJ2.out; first | omega | exact Nat.le_refl _⟩, ⟨by (with_reducible repeat (first | apply Kd.R_alloc | apply Kd.R_drewN | apply Kd.R_drew)); exact HO601.out⟩, ⟨by (with_reducible repeat (first | refine blk_drewN ?_ _ | refine blk_drew ?_ | refine blk_alloc ?_ _)); exact BK593.out⟩, ⟨by repeat (first | (with_reducible first | exact HB.out | apply below_alloc | apply pw_below_drewN | apply below_drew1 | refine below_set ?_ GE593.out) | exact HB.out)⟩⟩
          · rw [if_neg c12] at H
            have c12b0 : (t599 == 0) = false := beq_eq_false_iff_ne.mpr c12
            have c12b1 : (t599 != 0) = true := bne_iff_ne.mpr c12
            (first | rw [c12b0] | (simp only [i64_w, i32_w]; rw [c12b0]) | skip)
            have H' := Aside0.mk H
            clear H
            go_wp2
            go_meet
            case rel => exact ⟨_, (true), (by first | rfl | (simp; done) | (simp [*]; done)), H', ⟨by have := HJ2.out; first | omega | exact Nat.le_refl _⟩, ⟨by (with_reducible repeat (first | apply Kd.R_alloc | apply Kd.R_drewN | apply Kd.R_drew)); exact HO601.out⟩, ⟨by (with_reducible repeat (first | refine blk_drewN ?_ _ | refine blk_drew ?_ | refine blk_alloc ?_ _)); exact BK593.out⟩, ⟨by repeat (first | (with_reducible first | exact HB.out | apply below_alloc | apply pw_below_drewN | apply below_drew1 | refine below_set ?_ GE593.out) | exact HB.out)⟩⟩
        case rest =>
          clear HC10
          try clear c1
          try clear p2
          try clear c4
          try clear c6
          try clear c6b0
          try clear c6b1
          try clear p6
          try clear q6
          try clear hx6
          try clear qi6
          try clear c7
          try clear c12
          try clear c12b0
          try clear c12b1
          try clear c13
          try clear c13b0
          try clear c13b1
          try clear c14
          try clear c14b0
          try clear c14b1
          try clear hcz8_0
          try clear hcz8_1
          try clear hcz8_2
          try clear hcz8_3
          try clear hcz8_4
          try clear hcz8_5
          try clear hcz8_6
          try clear hcz8_7
          try clear hcz8_8
          try clear hcz8_9
          try clear hfz8_0
          try clear hfz8_1
          try clear hfz8_2
          try clear hfz8_3
          try clear hfz8_4
          try clear hfz8_5
          try clear hfz8_6
          try clear hfz8_7
          try clear hfz8_8
          try clear hfz8_9
          try clear hx602_0
          try clear p2
          try clear p602
          try clear q602
          obtain ⟨kq, x60_9, rfl, HA, HJ9, HO_7, BK593, HB⟩ := hcut
          cases kq with
          | zero => exact absurd HA.out (by simp [ferruleref17_Take.j1])
          | succ kj9 =>
            have H := HA.out
            clear HA
            simp only [ferruleref17_Take.j1] at H
            by_cases c17 : x60_9 = true
            · subst c17
              have H1 : (some (0, 0, 0, 0, 0, 0, 0, false, ([] : List (S75)), (⟨#[]⟩ : ByteArray), 3)) = some (r1, r2, r3, r4, r5, r6, r7, r8, r9, r10, r11) := by rw [if_pos rfl] at H; exact H
              clear H
              have H := H1
              clear H1
              simp only [Option.some.injEq, Prod.mk.injEq] at H
              obtain ⟨rfl, rfl, rfl, rfl, rfl, rfl, rfl, rfl, rfl, rfl, rfl⟩ := H
              have hcz18_0 : wc.cell? ⟨gb593, 0, none⟩ = some (.int .i64 0) := (blk_cell BK593.out 0).trans rfl
              have hcz18_1 : wc.cell? ⟨gb593, 1, none⟩ = some (.int .u64 0) := (blk_cell BK593.out 1).trans rfl
              have hcz18_2 : wc.cell? ⟨gb593, 2, none⟩ = some (.int .u64 0) := (blk_cell BK593.out 2).trans rfl
              have hcz18_3 : wc.cell? ⟨gb593, 3, none⟩ = some (.int .u64 0) := (blk_cell BK593.out 3).trans rfl
              have hcz18_4 : wc.cell? ⟨gb593, 4, none⟩ = some (.int .u64 0) := (blk_cell BK593.out 4).trans rfl
              have hcz18_5 : wc.cell? ⟨gb593, 5, none⟩ = some (.int .u64 0) := (blk_cell BK593.out 5).trans rfl
              have hcz18_6 : wc.cell? ⟨gb593, 6, none⟩ = some (.int .u64 0) := (blk_cell BK593.out 6).trans rfl
              have hcz18_7 : wc.cell? ⟨gb593, 7, none⟩ = some (.bool false) := (blk_cell BK593.out 7).trans rfl
              have hcz18_8 : wc.cell? ⟨gb593, 8, none⟩ = some (.slice none 0 0) := (blk_cell BK593.out 8).trans rfl
              have hcz18_9 : wc.cell? ⟨gb593, 9, none⟩ = some (.string (⟨#[]⟩ : ByteArray)) := (blk_cell BK593.out 9).trans rfl
              have hfz18_0 := blk_frozen BK593.out 0
              have hfz18_1 := blk_frozen BK593.out 1
              have hfz18_2 := blk_frozen BK593.out 2
              have hfz18_3 := blk_frozen BK593.out 3
              have hfz18_4 := blk_frozen BK593.out 4
              have hfz18_5 := blk_frozen BK593.out 5
              have hfz18_6 := blk_frozen BK593.out 6
              have hfz18_7 := blk_frozen BK593.out 7
              have hfz18_8 := blk_frozen BK593.out 8
              have hfz18_9 := blk_frozen BK593.out 9
              go_wp2
              refine bodyPost_ret (results_ct rfl _ _ gb593 57 #[.int .i64 0, .int .u64 0, .int .u64 0, .int .u64 0, .int .u64 0, .int .u64 0, .int .u64 0, .bool false, .slice none 0 0, .string (⟨#[]⟩ : ByteArray)] (0, 0) _ rfl (by (with_reducible repeat (first | refine blk_drewN ?_ _ | refine blk_drew ?_ | refine blk_alloc ?_ _)); refine blk_put (cs := #[.int .i64 0, .int .u64 0, .int .u64 0, .int .u64 0, .int .u64 0, .int .u64 0, .int .u64 0, .bool false, .slice none 0 0, .string (⟨#[]⟩ : ByteArray)]) ?_ 9 _ rfl; (with_reducible repeat (first | refine blk_drewN ?_ _ | refine blk_drew ?_ | refine blk_alloc ?_ _)); refine blk_put (cs := #[.int .i64 0, .int .u64 0, .int .u64 0, .int .u64 0, .int .u64 0, .int .u64 0, .int .u64 0, .bool false, .slice none 0 0, .string (⟨#[]⟩ : ByteArray)]) ?_ 8 _ rfl; (with_reducible repeat (first | refine blk_drewN ?_ _ | refine blk_drew ?_ | refine blk_alloc ?_ _)); refine blk_put (cs := #[.int .i64 0, .int .u64 0, .int .u64 0, .int .u64 0, .int .u64 0, .int .u64 0, .int .u64 0, .bool false, .slice none 0 0, .string (⟨#[]⟩ : ByteArray)]) ?_ 7 _ rfl; (with_reducible repeat (first | refine blk_drewN ?_ _ | refine blk_drew ?_ | refine blk_alloc ?_ _)); refine blk_put (cs := #[.int .i64 0, .int .u64 0, .int .u64 0, .int .u64 0, .int .u64 0, .int .u64 0, .int .u64 0, .bool false, .slice none 0 0, .string (⟨#[]⟩ : ByteArray)]) ?_ 6 _ rfl; (with_reducible repeat (first | refine blk_drewN ?_ _ | refine blk_drew ?_ | refine blk_alloc ?_ _)); refine blk_put (cs := #[.int .i64 0, .int .u64 0, .int .u64 0, .int .u64 0, .int .u64 0, .int .u64 0, .int .u64 0, .bool false, .slice none 0 0, .string (⟨#[]⟩ : ByteArray)]) ?_ 5 _ rfl; (with_reducible repeat (first | refine blk_drewN ?_ _ | refine blk_drew ?_ | refine blk_alloc ?_ _)); refine blk_put (cs := #[.int .i64 0, .int .u64 0, .int .u64 0, .int .u64 0, .int .u64 0, .int .u64 0, .int .u64 0, .bool false, .slice none 0 0, .string (⟨#[]⟩ : ByteArray)]) ?_ 4 _ rfl; (with_reducible repeat (first | refine blk_drewN ?_ _ | refine blk_drew ?_ | refine blk_alloc ?_ _)); refine blk_put (cs := #[.int .i64 0, .int .u64 0, .int .u64 0, .int .u64 0, .int .u64 0, .int .u64 0, .int .u64 0, .bool false, .slice none 0 0, .string (⟨#[]⟩ : ByteArray)]) ?_ 3 _ rfl; (with_reducible repeat (first | refine blk_drewN ?_ _ | refine blk_drew ?_ | refine blk_alloc ?_ _)); refine blk_put (cs := #[.int .i64 0, .int .u64 0, .int .u64 0, .int .u64 0, .int .u64 0, .int .u64 0, .int .u64 0, .bool false, .slice none 0 0, .string (⟨#[]⟩ : ByteArray)]) ?_ 2 _ rfl; (with_reducible repeat (first | refine blk_drewN ?_ _ | refine blk_drew ?_ | refine blk_alloc ?_ _)); refine blk_put (cs := #[.int .i64 0, .int .u64 0, .int .u64 0, .int .u64 0, .int .u64 0, .int .u64 0, .int .u64 0, .bool false, .slice none 0 0, .string (⟨#[]⟩ : ByteArray)]) ?_ 1 _ rfl; (with_reducible repeat (first | refine blk_drewN ?_ _ | refine blk_drew ?_ | refine blk_alloc ?_ _)); refine blk_put (cs := #[.int .i64 0, .int .u64 0, .int .u64 0, .int .u64 0, .int .u64 0, .int .u64 0, .int .u64 0, .bool false, .slice none 0 0, .string (⟨#[]⟩ : ByteArray)]) ?_ 0 _ rfl; (with_reducible repeat (first | refine blk_drewN ?_ _ | refine blk_drew ?_ | refine blk_alloc ?_ _)); exact BK593.out) Try.underlying57 rfl (by kernel_rfl)) rfl ?_
              exact ⟨_, by first | rfl | (simp [errW_none, errW_some] <;> rfl) | (simp [*, errW_none, errW_some] <;> rfl), by first | exact Kd.R_nil _ _ _ _ _ | exact Kd.N_nil _ _ _ _ _ | exact Kd.V_nil _ _ _ _ _ | exact Kd.Q_nil _ _ _ _ _ | exact Kd.S_nil _ _ _ _ _, by repeat (first | (with_reducible first | exact HB.out | apply below_alloc | apply pw_below_drewN | apply below_drew1 | refine below_set ?_ GE593.out) | exact HB.out)⟩
            · replace c17 := Bool.eq_false_iff.mpr c17
              subst c17
              have H1 : (if 0 < (t597.length : Int) then (if 1 < (t597.length : Int) then (if 2 < (t597.length : Int) then (if 3 < (t597.length : Int) then (if 4 < (t597.length : Int) then (if 5 < (t597.length : Int) then (if 6 < (t597.length : Int) then ((ferruleref01_TakeNum.f kj9 t598).bind fun bt611 => (if bt611.2.2 = 0 then (ferruleref17_Take.j2 kj9 bt611.1 bt611.2.1 (decide (bt611.1 > 1)) (wrap64 (rd t597 0)) (rd t597 1) (rd t597 2) (rd t597 3) (rd t597 4) (rd t597 5) (rd t597 6) false (⟨#[]⟩ : ByteArray)) else (ferruleref17_Take.j2 kj9 bt611.1 bt611.2.1 true (wrap64 (rd t597 0)) (rd t597 1) (rd t597 2) (rd t597 3) (rd t597 4) (rd t597 5) (rd t597 6) false (⟨#[]⟩ : ByteArray)))) else (none)) else (none)) else (none)) else (none)) else (none)) else (none)) else (none)) = some (r1, r2, r3, r4, r5, r6, r7, r8, r9, r10, r11) := by rw [if_neg (show ¬ (false = true) by decide)] at H; exact H
              clear H
              have H := H1
              clear H1
              by_cases c19 : 0 < (t597.length : Int)
              · rw [if_pos c19] at H
                have c19b0 : decide (0 < (t597.length : Int)) = true := decide_eq_true c19
                have c19b1 : decide (0 < t597.length) = true := decide_eq_true (by omega)
                clear c19
                by_cases c20 : 1 < (t597.length : Int)
                · rw [if_pos c20] at H
                  have c20b0 : decide (1 < (t597.length : Int)) = true := decide_eq_true c20
                  have c20b1 : decide (1 < t597.length) = true := decide_eq_true (by omega)
                  clear c20
                  by_cases c21 : 2 < (t597.length : Int)
                  · rw [if_pos c21] at H
                    have c21b0 : decide (2 < (t597.length : Int)) = true := decide_eq_true c21
                    have c21b1 : decide (2 < t597.length) = true := decide_eq_true (by omega)
                    clear c21
                    by_cases c22 : 3 < (t597.length : Int)
                    · rw [if_pos c22] at H
                      have c22b0 : decide (3 < (t597.length : Int)) = true := decide_eq_true c22
                      have c22b1 : decide (3 < t597.length) = true := decide_eq_true (by omega)
                      clear c22
                      by_cases c23 : 4 < (t597.length : Int)
                      · rw [if_pos c23] at H
                        have c23b0 : decide (4 < (t597.length : Int)) = true := decide_eq_true c23
                        have c23b1 : decide (4 < t597.length) = true := decide_eq_true (by omega)
                        clear c23
                        by_cases c24 : 5 < (t597.length : Int)
                        · rw [if_pos c24] at H
                          have c24b0 : decide (5 < (t597.length : Int)) = true := decide_eq_true c24
                          have c24b1 : decide (5 < t597.length) = true := decide_eq_true (by omega)
                          clear c24
                          by_cases c25 : 6 < (t597.length : Int)
                          · rw [if_pos c25] at H
                            have c25b0 : decide (6 < (t597.length : Int)) = true := decide_eq_true c25
                            have c25b1 : decide (6 < t597.length) = true := decide_eq_true (by omega)
                            clear c25
                            replace H := Option.bind_eq_some_iff.mp H
                            obtain ⟨⟨t611, t612, t613⟩, A260, H⟩ := H
                            replace H : (if t613 = 0 then (ferruleref17_Take.j2 kj9 t611 t612 (decide (t611 > 1)) (wrap64 (rd t597 0)) (rd t597 1) (rd t597 2) (rd t597 3) (rd t597 4) (rd t597 5) (rd t597 6) false (⟨#[]⟩ : ByteArray)) else (ferruleref17_Take.j2 kj9 t611 t612 true (wrap64 (rd t597 0)) (rd t597 1) (rd t597 2) (rd t597 3) (rd t597 4) (rd t597 5) (rd t597 6) false (⟨#[]⟩ : ByteArray))) = some (r1, r2, r3, r4, r5, r6, r7, r8, r9, r10, r11) := H
                            have A26 := Aside0.mk A260
                            clear A260
                            have HC27 := Aside0.mk H
                            clear H
                            try go_wp2
                            have n0_ := Aside0.mk (Kd.R_drew HO_7.out)
                            have n1_ := Aside0.mk (blk_drew BK593.out)
                            have n2_ := Aside0.mk (below_drew1 HB.out)
                            clear HO_7
                            clear BK593
                            clear HB
                            have HO_7 := n0_
                            have BK593 := n1_
                            have HB := n2_
                            clear n0_ n1_ n2_
                            obtain ⟨Ao29, co29, eo29⟩ := Kd.R_slice HO_7.out
                            (first | subst eo29 | (injection eo29 with f1_ f2_ f3_; have f4_ := f1_.symm; have f5_ := f3_.symm; clear f1_ f2_ f3_; subst f4_; subst f5_))
                            have p603 : 0 ≤ (0 : Int) := (by omega)
                            have q603 : 0 < (t597.length : Int) := of_decide_eq_true (by first | (with_reducible assumption) | assumption)
                            obtain ⟨ad603, e603, hx603_0⟩ := Kd.at_int (Kd.R_reads' HO_7.out).2.2 0 p603 q603
                            cases e603
                            have qi603 : (0 < t597.length) = True := eq_true (by omega)
                            (try rw [show ((0 : Int)).toNat = 0 from rfl] at hx603_0)
                            (try rw [Addr.add_zero'] at hx603_0)
                            replace p603 := eq_true p603
                            replace q603 := eq_true q603
                            have p604 : 0 ≤ (1 : Int) := (by omega)
                            have q604 : 1 < (t597.length : Int) := of_decide_eq_true (by first | (with_reducible assumption) | assumption)
                            obtain ⟨ad604, e604, hx604_0⟩ := Kd.at_int (Kd.R_reads' HO_7.out).2.2 1 p604 q604
                            obtain rfl : ad603 = ad604 := (by injection e604)
                            (try simp only [show (1 : Int).toNat = 1 from rfl, Nat.reduceMul, Nat.reduceEqDiff, Go.Addr.add, ↓reduceIte] at hx604_0)
                            have qi604 : (1 < t597.length) = True := eq_true (by omega)
                            (try rw [show ((1 : Int)).toNat = 1 from rfl] at hx604_0)
                            replace p604 := eq_true p604
                            replace q604 := eq_true q604
                            have p605 : 0 ≤ (2 : Int) := (by omega)
                            have q605 : 2 < (t597.length : Int) := of_decide_eq_true (by first | (with_reducible assumption) | assumption)
                            obtain ⟨ad605, e605, hx605_0⟩ := Kd.at_int (Kd.R_reads' HO_7.out).2.2 2 p605 q605
                            obtain rfl : ad603 = ad605 := (by injection e605)
                            (try simp only [show (2 : Int).toNat = 2 from rfl, Nat.reduceMul, Nat.reduceEqDiff, Go.Addr.add, ↓reduceIte] at hx605_0)
                            have qi605 : (2 < t597.length) = True := eq_true (by omega)
                            (try rw [show ((2 : Int)).toNat = 2 from rfl] at hx605_0)
                            replace p605 := eq_true p605
                            replace q605 := eq_true q605
                            have p606 : 0 ≤ (3 : Int) := (by omega)
                            have q606 : 3 < (t597.length : Int) := of_decide_eq_true (by first | (with_reducible assumption) | assumption)
                            obtain ⟨ad606, e606, hx606_0⟩ := Kd.at_int (Kd.R_reads' HO_7.out).2.2 3 p606 q606
                            obtain rfl : ad603 = ad606 := (by injection e606)
                            (try simp only [show (3 : Int).toNat = 3 from rfl, Nat.reduceMul, Nat.reduceEqDiff, Go.Addr.add, ↓reduceIte] at hx606_0)
                            have qi606 : (3 < t597.length) = True := eq_true (by omega)
                            (try rw [show ((3 : Int)).toNat = 3 from rfl] at hx606_0)
                            replace p606 := eq_true p606
                            replace q606 := eq_true q606
                            have p607 : 0 ≤ (4 : Int) := (by omega)
                            have q607 : 4 < (t597.length : Int) := of_decide_eq_true (by first | (with_reducible assumption) | assumption)
                            obtain ⟨ad607, e607, hx607_0⟩ := Kd.at_int (Kd.R_reads' HO_7.out).2.2 4 p607 q607
                            obtain rfl : ad603 = ad607 := (by injection e607)
                            (try simp only [show (4 : Int).toNat = 4 from rfl, Nat.reduceMul, Nat.reduceEqDiff, Go.Addr.add, ↓reduceIte] at hx607_0)
                            have qi607 : (4 < t597.length) = True := eq_true (by omega)
                            (try rw [show ((4 : Int)).toNat = 4 from rfl] at hx607_0)
                            replace p607 := eq_true p607
                            replace q607 := eq_true q607
                            have p608 : 0 ≤ (5 : Int) := (by omega)
                            have q608 : 5 < (t597.length : Int) := of_decide_eq_true (by first | (with_reducible assumption) | assumption)
                            obtain ⟨ad608, e608, hx608_0⟩ := Kd.at_int (Kd.R_reads' HO_7.out).2.2 5 p608 q608
                            obtain rfl : ad603 = ad608 := (by injection e608)
                            (try simp only [show (5 : Int).toNat = 5 from rfl, Nat.reduceMul, Nat.reduceEqDiff, Go.Addr.add, ↓reduceIte] at hx608_0)
                            have qi608 : (5 < t597.length) = True := eq_true (by omega)
                            (try rw [show ((5 : Int)).toNat = 5 from rfl] at hx608_0)
                            replace p608 := eq_true p608
                            replace q608 := eq_true q608
                            have p609 : 0 ≤ (6 : Int) := (by omega)
                            have q609 : 6 < (t597.length : Int) := of_decide_eq_true (by first | (with_reducible assumption) | assumption)
                            obtain ⟨ad609, e609, hx609_0⟩ := Kd.at_int (Kd.R_reads' HO_7.out).2.2 6 p609 q609
                            obtain rfl : ad603 = ad609 := (by injection e609)
                            (try simp only [show (6 : Int).toNat = 6 from rfl, Nat.reduceMul, Nat.reduceEqDiff, Go.Addr.add, ↓reduceIte] at hx609_0)
                            have qi609 : (6 < t597.length) = True := eq_true (by omega)
                            (try rw [show ((6 : Int)).toNat = 6 from rfl] at hx609_0)
                            replace p609 := eq_true p609
                            replace q609 := eq_true q609
                            refine start_ (n := 25) (S := fun w' => w'.cell? ad603 = some (.int .u64 (rd t597 0)) ∧ w'.cell? ⟨ad603.block, ad603.off + 1, none⟩ = some (.int .u64 (rd t597 1)) ∧ w'.cell? ⟨ad603.block, ad603.off + 2, none⟩ = some (.int .u64 (rd t597 2)) ∧ w'.cell? ⟨ad603.block, ad603.off + 3, none⟩ = some (.int .u64 (rd t597 3)) ∧ w'.cell? ⟨ad603.block, ad603.off + 4, none⟩ = some (.int .u64 (rd t597 4)) ∧ w'.cell? ⟨ad603.block, ad603.off + 5, none⟩ = some (.int .u64 (rd t597 5)) ∧ w'.cell? ⟨ad603.block, ad603.off + 6, none⟩ = some (.int .u64 (rd t597 6))) (ds := []) #[false, false, false, false, false, false, false, false, false, false, false, false, false, false, false, false, false, false, false, false, false, false, false, false, false] (by kernel_rfl) rfl rfl ⟨hx603_0, hx604_0, hx605_0, hx606_0, hx607_0, hx608_0, hx609_0⟩ (fun hHeld => ?_); refine with_tabW ferruleref17_Take.tab7 ferruleref17_Take.bits7 (fun HT_ HW_ => ?_)
                            generalize wc.drew = w28 at HO_7 BK593 HB hx603_0 hx604_0 hx605_0 hx606_0 hx607_0 hx608_0 hx609_0 hHeld ⊢
                            refine pure_ (i := 0) (N := some 62) (v := ?_) (a' := ?_) #[true, false, false, false, false, false, false, false, false, false, false, false, false, false, false, false, false, false, false, false, false, false, false, false, false] rfl rfl (any_of HT_.out (by kernel_rfl)) (fun _ _ _ h => h) (Or.inl ⟨by rfl, ?_⟩) ?_ ?_
                            rotate_left
                            · intro w'
                              go_simp
                              with_reducible rfl
                            rotate_left
                            · simp only [Act.put, List.setIfInBounds_toArray, List.set_cons_zero, List.set_cons_succ, i64_w, i32_w]
                              rfl
                            refine pure_ (i := 1) (N := some 63) (v := ?_) (a' := ?_) #[true, true, false, false, false, false, false, false, false, false, false, false, false, false, false, false, false, false, false, false, false, false, false, false, false] rfl rfl (any_of HT_.out (by kernel_rfl)) (fun _ _ _ h => h) (Or.inl ⟨by rfl, ?_⟩) ?_ ?_
                            rotate_left
                            · intro w'
                              go_simp
                              with_reducible rfl
                            rotate_left
                            · simp only [Act.put, List.setIfInBounds_toArray, List.set_cons_zero, List.set_cons_succ, i64_w, i32_w]
                              rfl
                            refine pure_ (i := 4) (N := some 66) (v := ?_) (a' := ?_) #[true, true, false, false, true, false, false, false, false, false, false, false, false, false, false, false, false, false, false, false, false, false, false, false, false] rfl rfl (any_of HT_.out (by kernel_rfl)) (fun _ _ _ h => h) (Or.inl ⟨by rfl, ?_⟩) ?_ ?_
                            rotate_left
                            · intro w'
                              go_simp
                              with_reducible rfl
                            rotate_left
                            · simp only [Act.put, List.setIfInBounds_toArray, List.set_cons_zero, List.set_cons_succ, i64_w, i32_w]
                              rfl
                            refine pure_ (i := 5) (N := some 67) (v := ?_) (a' := ?_) #[true, true, false, false, true, true, false, false, false, false, false, false, false, false, false, false, false, false, false, false, false, false, false, false, false] rfl rfl (any_of HT_.out (by kernel_rfl)) (fun _ _ _ h => h) (Or.inl ⟨by rfl, ?_⟩) ?_ ?_
                            rotate_left
                            · intro w'
                              go_simp
                              with_reducible rfl
                            rotate_left
                            · simp only [Act.put, List.setIfInBounds_toArray, List.set_cons_zero, List.set_cons_succ, i64_w, i32_w]
                              rfl
                            refine pure_ (i := 7) (N := some 69) (v := ?_) (a' := ?_) #[true, true, false, false, true, true, false, true, false, false, false, false, false, false, false, false, false, false, false, false, false, false, false, false, false] rfl rfl (any_of HT_.out (by kernel_rfl)) (fun _ _ _ h => h) (Or.inl ⟨by rfl, ?_⟩) ?_ ?_
                            rotate_left
                            · intro w'
                              go_simp
                              with_reducible rfl
                            rotate_left
                            · simp only [Act.put, List.setIfInBounds_toArray, List.set_cons_zero, List.set_cons_succ, i64_w, i32_w]
                              rfl
                            refine pure_ (i := 8) (N := some 70) (v := ?_) (a' := ?_) #[true, true, false, false, true, true, false, true, true, false, false, false, false, false, false, false, false, false, false, false, false, false, false, false, false] rfl rfl (any_of HT_.out (by kernel_rfl)) (fun _ _ _ h => h) (Or.inl ⟨by rfl, ?_⟩) ?_ ?_
                            rotate_left
                            · intro w'
                              go_simp
                              with_reducible rfl
                            rotate_left
                            · simp only [Act.put, List.setIfInBounds_toArray, List.set_cons_zero, List.set_cons_succ, i64_w, i32_w]
                              rfl
                            refine pure_ (i := 10) (N := some 72) (v := ?_) (a' := ?_) #[true, true, false, false, true, true, false, true, true, false, true, false, false, false, false, false, false, false, false, false, false, false, false, false, false] rfl rfl (any_of HT_.out (by kernel_rfl)) (fun _ _ _ h => h) (Or.inl ⟨by rfl, ?_⟩) ?_ ?_
                            rotate_left
                            · intro w'
                              go_simp
                              with_reducible rfl
                            rotate_left
                            · simp only [Act.put, List.setIfInBounds_toArray, List.set_cons_zero, List.set_cons_succ, i64_w, i32_w]
                              rfl
                            refine pure_ (i := 11) (N := some 73) (v := ?_) (a' := ?_) #[true, true, false, false, true, true, false, true, true, false, true, true, false, false, false, false, false, false, false, false, false, false, false, false, false] rfl rfl (any_of HT_.out (by kernel_rfl)) (fun _ _ _ h => h) (Or.inl ⟨by rfl, ?_⟩) ?_ ?_
                            rotate_left
                            · intro w'
                              go_simp
                              with_reducible rfl
                            rotate_left
                            · simp only [Act.put, List.setIfInBounds_toArray, List.set_cons_zero, List.set_cons_succ, i64_w, i32_w]
                              rfl
                            refine pure_ (i := 13) (N := some 75) (v := ?_) (a' := ?_) #[true, true, false, false, true, true, false, true, true, false, true, true, false, true, false, false, false, false, false, false, false, false, false, false, false] rfl rfl (any_of HT_.out (by kernel_rfl)) (fun _ _ _ h => h) (Or.inl ⟨by rfl, ?_⟩) ?_ ?_
                            rotate_left
                            · intro w'
                              go_simp
                              with_reducible rfl
                            rotate_left
                            · simp only [Act.put, List.setIfInBounds_toArray, List.set_cons_zero, List.set_cons_succ, i64_w, i32_w]
                              rfl
                            refine pure_ (i := 14) (N := some 76) (v := ?_) (a' := ?_) #[true, true, false, false, true, true, false, true, true, false, true, true, false, true, true, false, false, false, false, false, false, false, false, false, false] rfl rfl (any_of HT_.out (by kernel_rfl)) (fun _ _ _ h => h) (Or.inl ⟨by rfl, ?_⟩) ?_ ?_
                            rotate_left
                            · intro w'
                              go_simp
                              with_reducible rfl
                            rotate_left
                            · simp only [Act.put, List.setIfInBounds_toArray, List.set_cons_zero, List.set_cons_succ, i64_w, i32_w]
                              rfl
                            refine pure_ (i := 16) (N := some 78) (v := ?_) (a' := ?_) #[true, true, false, false, true, true, false, true, true, false, true, true, false, true, true, false, true, false, false, false, false, false, false, false, false] rfl rfl (any_of HT_.out (by kernel_rfl)) (fun _ _ _ h => h) (Or.inl ⟨by rfl, ?_⟩) ?_ ?_
                            rotate_left
                            · intro w'
                              go_simp
                              with_reducible rfl
                            rotate_left
                            · simp only [Act.put, List.setIfInBounds_toArray, List.set_cons_zero, List.set_cons_succ, i64_w, i32_w]
                              rfl
                            refine pure_ (i := 17) (N := some 79) (v := ?_) (a' := ?_) #[true, true, false, false, true, true, false, true, true, false, true, true, false, true, true, false, true, true, false, false, false, false, false, false, false] rfl rfl (any_of HT_.out (by kernel_rfl)) (fun _ _ _ h => h) (Or.inl ⟨by rfl, ?_⟩) ?_ ?_
                            rotate_left
                            · intro w'
                              go_simp
                              with_reducible rfl
                            rotate_left
                            · simp only [Act.put, List.setIfInBounds_toArray, List.set_cons_zero, List.set_cons_succ, i64_w, i32_w]
                              rfl
                            refine pure_ (i := 19) (N := some 81) (v := ?_) (a' := ?_) #[true, true, false, false, true, true, false, true, true, false, true, true, false, true, true, false, true, true, false, true, false, false, false, false, false] rfl rfl (any_of HT_.out (by kernel_rfl)) (fun _ _ _ h => h) (Or.inl ⟨by rfl, ?_⟩) ?_ ?_
                            rotate_left
                            · intro w'
                              go_simp
                              with_reducible rfl
                            rotate_left
                            · simp only [Act.put, List.setIfInBounds_toArray, List.set_cons_zero, List.set_cons_succ, i64_w, i32_w]
                              rfl
                            refine pure_ (i := 20) (N := some 82) (v := ?_) (a' := ?_) #[true, true, false, false, true, true, false, true, true, false, true, true, false, true, true, false, true, true, false, true, true, false, false, false, false] rfl rfl (any_of HT_.out (by kernel_rfl)) (fun _ _ _ h => h) (Or.inl ⟨by rfl, ?_⟩) ?_ ?_
                            rotate_left
                            · intro w'
                              go_simp
                              with_reducible rfl
                            rotate_left
                            · simp only [Act.put, List.setIfInBounds_toArray, List.set_cons_zero, List.set_cons_succ, i64_w, i32_w]
                              rfl
                            refine take_ (i := 2) (N := some 64) (v := ?_) (a' := ?_) #[true, true, true, false, true, true, false, true, true, false, true, true, false, true, true, false, true, true, false, true, true, false, false, false, false] rfl rfl (take_ofW HT_.out HW_.out (by kernel_rfl)) (fun _ _ _ h => h) (Or.inl ⟨by rfl, ?_⟩) hHeld ?_ ?_
                            rotate_left
                            · rintro w' ⟨s0, s1, s2, s3, s4, s5, s6⟩
                              go_simp
                              with_reducible rfl
                            rotate_left
                            · simp only [Act.put, List.setIfInBounds_toArray, List.set_cons_zero, List.set_cons_succ, i64_w, i32_w]
                              rfl
                            refine pure_ (i := 3) (N := some 65) (v := ?_) (a' := ?_) #[true, true, true, true, true, true, false, true, true, false, true, true, false, true, true, false, true, true, false, true, true, false, false, false, false] rfl rfl (any_of HT_.out (by kernel_rfl)) (fun _ _ _ h => h) (Or.inl ⟨by rfl, ?_⟩) ?_ ?_
                            rotate_left
                            · intro w'
                              go_simp
                              with_reducible rfl
                            rotate_left
                            · simp only [Act.put, List.setIfInBounds_toArray, List.set_cons_zero, List.set_cons_succ, i64_w, i32_w]
                              rfl
                            refine take_ (i := 6) (N := some 68) (v := ?_) (a' := ?_) #[true, true, true, true, true, true, true, true, true, false, true, true, false, true, true, false, true, true, false, true, true, false, false, false, false] rfl rfl (take_ofW HT_.out HW_.out (by kernel_rfl)) (fun _ _ _ h => h) (Or.inl ⟨by rfl, ?_⟩) hHeld ?_ ?_
                            rotate_left
                            · rintro w' ⟨s0, s1, s2, s3, s4, s5, s6⟩
                              go_simp
                              with_reducible rfl
                            rotate_left
                            · simp only [Act.put, List.setIfInBounds_toArray, List.set_cons_zero, List.set_cons_succ, i64_w, i32_w]
                              rfl
                            refine take_ (i := 9) (N := some 71) (v := ?_) (a' := ?_) #[true, true, true, true, true, true, true, true, true, true, true, true, false, true, true, false, true, true, false, true, true, false, false, false, false] rfl rfl (take_ofW HT_.out HW_.out (by kernel_rfl)) (fun _ _ _ h => h) (Or.inl ⟨by rfl, ?_⟩) hHeld ?_ ?_
                            rotate_left
                            · rintro w' ⟨s0, s1, s2, s3, s4, s5, s6⟩
                              go_simp
                              with_reducible rfl
                            rotate_left
                            · simp only [Act.put, List.setIfInBounds_toArray, List.set_cons_zero, List.set_cons_succ, i64_w, i32_w]
                              rfl
                            refine take_ (i := 12) (N := some 74) (v := ?_) (a' := ?_) #[true, true, true, true, true, true, true, true, true, true, true, true, true, true, true, false, true, true, false, true, true, false, false, false, false] rfl rfl (take_ofW HT_.out HW_.out (by kernel_rfl)) (fun _ _ _ h => h) (Or.inl ⟨by rfl, ?_⟩) hHeld ?_ ?_
                            rotate_left
                            · rintro w' ⟨s0, s1, s2, s3, s4, s5, s6⟩
                              go_simp
                              with_reducible rfl
                            rotate_left
                            · simp only [Act.put, List.setIfInBounds_toArray, List.set_cons_zero, List.set_cons_succ, i64_w, i32_w]
                              rfl
                            refine take_ (i := 15) (N := some 77) (v := ?_) (a' := ?_) #[true, true, true, true, true, true, true, true, true, true, true, true, true, true, true, true, true, true, false, true, true, false, false, false, false] rfl rfl (take_ofW HT_.out HW_.out (by kernel_rfl)) (fun _ _ _ h => h) (Or.inl ⟨by rfl, ?_⟩) hHeld ?_ ?_
                            rotate_left
                            · rintro w' ⟨s0, s1, s2, s3, s4, s5, s6⟩
                              go_simp
                              with_reducible rfl
                            rotate_left
                            · simp only [Act.put, List.setIfInBounds_toArray, List.set_cons_zero, List.set_cons_succ, i64_w, i32_w]
                              rfl
                            refine take_ (i := 18) (N := some 80) (v := ?_) (a' := ?_) #[true, true, true, true, true, true, true, true, true, true, true, true, true, true, true, true, true, true, true, true, true, false, false, false, false] rfl rfl (take_ofW HT_.out HW_.out (by kernel_rfl)) (fun _ _ _ h => h) (Or.inl ⟨by rfl, ?_⟩) hHeld ?_ ?_
                            rotate_left
                            · rintro w' ⟨s0, s1, s2, s3, s4, s5, s6⟩
                              go_simp
                              with_reducible rfl
                            rotate_left
                            · simp only [Act.put, List.setIfInBounds_toArray, List.set_cons_zero, List.set_cons_succ, i64_w, i32_w]
                              rfl
                            refine take_ (i := 21) (N := some 83) (v := ?_) (a' := ?_) #[true, true, true, true, true, true, true, true, true, true, true, true, true, true, true, true, true, true, true, true, true, true, false, false, false] rfl rfl (take_ofW HT_.out HW_.out (by kernel_rfl)) (fun _ _ _ h => h) (Or.inl ⟨by rfl, ?_⟩) hHeld ?_ ?_
                            rotate_left
                            · rintro w' ⟨s0, s1, s2, s3, s4, s5, s6⟩
                              go_simp
                              with_reducible rfl
                            rotate_left
                            · simp only [Act.put, List.setIfInBounds_toArray, List.set_cons_zero, List.set_cons_succ, i64_w, i32_w]
                              rfl
                            refine pure_ (i := 22) (N := some 84) (v := ?_) (a' := ?_) #[true, true, true, true, true, true, true, true, true, true, true, true, true, true, true, true, true, true, true, true, true, true, true, false, false] rfl rfl (any_of HT_.out (by kernel_rfl)) (fun _ _ _ h => h) (Or.inl ⟨by rfl, ?_⟩) ?_ ?_
                            rotate_left
                            · intro w'
                              go_simp
                              with_reducible rfl
                            rotate_left
                            · simp only [Act.put, List.setIfInBounds_toArray, List.set_cons_zero, List.set_cons_succ, i64_w, i32_w]
                              rfl
                            refine one_ (i := 23) (N := some 10) #[true, true, true, true, true, true, true, true, true, true, true, true, true, true, true, true, true, true, true, true, true, true, true, true, false] rfl rfl (one_of HT_.out (by kernel_rfl)) (by decide) (fun K hK => ?_)
                            refine box_step ?hg (N := 10) ?hd (cs := #[.int .i64 0, .int .u64 0, .int .u64 0, .int .u64 0, .int .u64 0, .int .u64 0, .int .u64 0, .bool false, .slice none 0 0, .string (⟨#[]⟩ : ByteArray)]) (t := 57) ?hr ?_; (case hd => rfl); (case hg => rfl); (case hr => first | (go_simp; done) | (go_simp; rfl))
                            intro gb610 hg w30 hbox hb
                            have HS0_ := (hb.cell (World.block_lt_of_cell? _ _ (hHeld.1))).trans (hHeld.1)
                            have HS1_ := (hb.cell (World.block_lt_of_cell? _ _ (hHeld.2.1))).trans (hHeld.2.1)
                            have HS2_ := (hb.cell (World.block_lt_of_cell? _ _ (hHeld.2.2.1))).trans (hHeld.2.2.1)
                            have HS3_ := (hb.cell (World.block_lt_of_cell? _ _ (hHeld.2.2.2.1))).trans (hHeld.2.2.2.1)
                            have HS4_ := (hb.cell (World.block_lt_of_cell? _ _ (hHeld.2.2.2.2.1))).trans (hHeld.2.2.2.2.1)
                            have HS5_ := (hb.cell (World.block_lt_of_cell? _ _ (hHeld.2.2.2.2.2.1))).trans (hHeld.2.2.2.2.2.1)
                            have HS6_ := (hb.cell (World.block_lt_of_cell? _ _ (hHeld.2.2.2.2.2.2))).trans (hHeld.2.2.2.2.2.2)
                            have n0_ := Aside0.mk (Kd.R_below (by (with_reducible repeat (first | apply Kd.R_alloc | apply Kd.R_drewN | apply Kd.R_drew)); exact HO_7.out) hb)
                            have n1_ := Aside0.mk (blk_below (g := gb593) (o := .cells #[.int .i64 0, .int .u64 0, .int .u64 0, .int .u64 0, .int .u64 0, .int .u64 0, .int .u64 0, .bool false, .slice none 0 0, .string (⟨#[]⟩ : ByteArray)] 57 (0, 0)) (by (with_reducible repeat (first | refine blk_drewN ?_ _ | refine blk_drew ?_ | refine blk_alloc ?_ _)); exact BK593.out) hb)
                            have n2_ := Aside0.mk (below_step (by repeat (first | (with_reducible first | exact HB.out | apply below_alloc | apply pw_below_drewN | apply below_drew1 | refine below_set ?_ GE593.out) | exact HB.out | exact Below.refl _ _)) hb)
                            have n3_ := Aside0.mk (hbox)
                            have n4_ := Aside0.mk ((by rw [hg]; exact (below_size (by repeat (first | (with_reducible first | exact HB.out | apply below_alloc | apply pw_below_drewN | apply below_drew1 | refine below_set ?_ GE593.out) | exact HB.out))) : w.heap.size ≤ gb610))
                            have n5_ := Aside0.mk ((by rw [hg]; exact (below_size (by repeat (first | (with_reducible first | exact HB.out | apply below_alloc | apply pw_below_drewN | apply below_drew1 | refine below_set ?_ GE593.out) | exact HB.out))) : w.heap.size ≤ gb610))
                            have n6_ := Aside0.mk ((by rw [hg]; exact Nat.ne_of_lt (blk_lt (g := gb593) (o := .cells #[.int .i64 0, .int .u64 0, .int .u64 0, .int .u64 0, .int .u64 0, .int .u64 0, .int .u64 0, .bool false, .slice none 0 0, .string (⟨#[]⟩ : ByteArray)] 57 (0, 0)) (by (with_reducible repeat (first | refine blk_drewN ?_ _ | refine blk_drew ?_ | refine blk_alloc ?_ _)); exact BK593.out)) : gb593 ≠ gb610))
                            have n7_ := Aside0.mk ((by rw [hg]; exact Nat.ne_of_gt (blk_lt (g := gb593) (o := .cells #[.int .i64 0, .int .u64 0, .int .u64 0, .int .u64 0, .int .u64 0, .int .u64 0, .int .u64 0, .bool false, .slice none 0 0, .string (⟨#[]⟩ : ByteArray)] 57 (0, 0)) (by (with_reducible repeat (first | refine blk_drewN ?_ _ | refine blk_drew ?_ | refine blk_alloc ?_ _)); exact BK593.out)) : gb610 ≠ gb593))
                            clear HO_7
                            clear BK593
                            clear HB
                            have HO_7 := n0_
                            have BK593 := n1_
                            have HB := n2_
                            have BK610 := n3_
                            have GW610 := n4_
                            have GE610 := n5_
                            have NB593_610 := n6_
                            have NB610_593 := n7_
                            clear n0_ n1_ n2_ n3_ n4_ n5_ n6_ n7_
                            clear hb hbox hg
                            refine hK.out _ _ ⟨HS0_, HS1_, HS2_, HS3_, HS4_, HS5_, HS6_⟩ (fun hHeld => ?_)
                            clear hK K
                            refine norm_ (a' := ?_) ?_ ?_
                            rotate_left
                            · show Act.put _ (some 10) _ = _
                              simp only [Act.put, List.setIfInBounds_toArray, List.set_cons_zero, List.set_cons_succ, i64_w, i32_w]
                              rfl
                            refine one_ (i := 24) (N := none) #[true, true, true, true, true, true, true, true, true, true, true, true, true, true, true, true, true, true, true, true, true, true, true, true, true] rfl rfl (one_of HT_.out (by kernel_rfl)) (by decide) (fun K hK => ?_)
                            refine skip_ (w1 := w30.setRow gb610 #[.int .i64 (wrap64 (rd t597 0)), .int .u64 (rd t597 1), .int .u64 (rd t597 2), .int .u64 (rd t597 3), .int .u64 (rd t597 4), .int .u64 (rd t597 5), .int .u64 (rd t597 6), .bool false, (.slice none 0 0), .string (⟨#[]⟩ : ByteArray)]) (by rfl) rfl (by refine exec_store10r rfl rfl ?hs_ BK610.out (by kernel_rfl) ?h1_; (case hs_ => rfl); (case h1_ => rfl)) ?_
                            have hne_ : ad603.block ≠ gb610 := Kd.own_blk (Kd.R_ne HO_7.out BK610.out (by decide))
                            have hH_ := And.intro ((row_cell (p := ad603) hne_ #[.int .i64 (wrap64 (rd t597 0)), .int .u64 (rd t597 1), .int .u64 (rd t597 2), .int .u64 (rd t597 3), .int .u64 (rd t597 4), .int .u64 (rd t597 5), .int .u64 (rd t597 6), .bool false, (.slice none 0 0), .string (⟨#[]⟩ : ByteArray)]).trans (hHeld.1)) (And.intro ((row_cell (p := ⟨ad603.block, ad603.off + 1, none⟩) hne_ #[.int .i64 (wrap64 (rd t597 0)), .int .u64 (rd t597 1), .int .u64 (rd t597 2), .int .u64 (rd t597 3), .int .u64 (rd t597 4), .int .u64 (rd t597 5), .int .u64 (rd t597 6), .bool false, (.slice none 0 0), .string (⟨#[]⟩ : ByteArray)]).trans (hHeld.2.1)) (And.intro ((row_cell (p := ⟨ad603.block, ad603.off + 2, none⟩) hne_ #[.int .i64 (wrap64 (rd t597 0)), .int .u64 (rd t597 1), .int .u64 (rd t597 2), .int .u64 (rd t597 3), .int .u64 (rd t597 4), .int .u64 (rd t597 5), .int .u64 (rd t597 6), .bool false, (.slice none 0 0), .string (⟨#[]⟩ : ByteArray)]).trans (hHeld.2.2.1)) (And.intro ((row_cell (p := ⟨ad603.block, ad603.off + 3, none⟩) hne_ #[.int .i64 (wrap64 (rd t597 0)), .int .u64 (rd t597 1), .int .u64 (rd t597 2), .int .u64 (rd t597 3), .int .u64 (rd t597 4), .int .u64 (rd t597 5), .int .u64 (rd t597 6), .bool false, (.slice none 0 0), .string (⟨#[]⟩ : ByteArray)]).trans (hHeld.2.2.2.1)) (And.intro ((row_cell (p := ⟨ad603.block, ad603.off + 4, none⟩) hne_ #[.int .i64 (wrap64 (rd t597 0)), .int .u64 (rd t597 1), .int .u64 (rd t597 2), .int .u64 (rd t597 3), .int .u64 (rd t597 4), .int .u64 (rd t597 5), .int .u64 (rd t597 6), .bool false, (.slice none 0 0), .string (⟨#[]⟩ : ByteArray)]).trans (hHeld.2.2.2.2.1)) (And.intro ((row_cell (p := ⟨ad603.block, ad603.off + 5, none⟩) hne_ #[.int .i64 (wrap64 (rd t597 0)), .int .u64 (rd t597 1), .int .u64 (rd t597 2), .int .u64 (rd t597 3), .int .u64 (rd t597 4), .int .u64 (rd t597 5), .int .u64 (rd t597 6), .bool false, (.slice none 0 0), .string (⟨#[]⟩ : ByteArray)]).trans (hHeld.2.2.2.2.2.1)) ((row_cell (p := ⟨ad603.block, ad603.off + 6, none⟩) hne_ #[.int .i64 (wrap64 (rd t597 0)), .int .u64 (rd t597 1), .int .u64 (rd t597 2), .int .u64 (rd t597 3), .int .u64 (rd t597 4), .int .u64 (rd t597 5), .int .u64 (rd t597 6), .bool false, (.slice none 0 0), .string (⟨#[]⟩ : ByteArray)]).trans (hHeld.2.2.2.2.2.2)))))))
                            have n0_ := Aside0.mk (setRow_heap w30 gb610 _ #[.int .i64 (wrap64 (rd t597 0)), .int .u64 (rd t597 1), .int .u64 (rd t597 2), .int .u64 (rd t597 3), .int .u64 (rd t597 4), .int .u64 (rd t597 5), .int .u64 (rd t597 6), .bool false, (.slice none 0 0), .string (⟨#[]⟩ : ByteArray)] 57 (0, 0) BK610.out)
                            have n1_ := Aside0.mk (row_blk BK593.out NB593_610.out #[.int .i64 (wrap64 (rd t597 0)), .int .u64 (rd t597 1), .int .u64 (rd t597 2), .int .u64 (rd t597 3), .int .u64 (rd t597 4), .int .u64 (rd t597 5), .int .u64 (rd t597 6), .bool false, (.slice none 0 0), .string (⟨#[]⟩ : ByteArray)])
                            have n2_ := Aside0.mk (row_below HB.out GE610.out #[.int .i64 (wrap64 (rd t597 0)), .int .u64 (rd t597 1), .int .u64 (rd t597 2), .int .u64 (rd t597 3), .int .u64 (rd t597 4), .int .u64 (rd t597 5), .int .u64 (rd t597 6), .bool false, (.slice none 0 0), .string (⟨#[]⟩ : ByteArray)])
                            clear BK610 BK593 HB HO_7
                            generalize w30.setRow gb610 #[.int .i64 (wrap64 (rd t597 0)), .int .u64 (rd t597 1), .int .u64 (rd t597 2), .int .u64 (rd t597 3), .int .u64 (rd t597 4), .int .u64 (rd t597 5), .int .u64 (rd t597 6), .bool false, (.slice none 0 0), .string (⟨#[]⟩ : ByteArray)] = wY_ at hH_ n0_ n1_ n2_ ⊢
                            have BK610 := n0_
                            have BK593 := n1_
                            have HB := n2_
                            clear n0_ n1_ n2_
                            refine hK.out _ _ hH_ (fun hHeld => ?_)
                            clear hK K
                            refine done_ (done_of HT_.out (by kernel_rfl)) ?_
                            go_upto_region 9 with (first | ((with_reducible refine gate_callee (f := 75) rfl ?_); refine goesL_ (some 87) rfl rfl Try.func75 (by kernel_rfl) rfl #[.string t598] rfl (by (try simp only [List.map_toArray, List.map_cons, List.map_nil]); first | done | rfl | (simp only [List.length_drop, List.length_take]; rfl)) ?_; (with_reducible refine (ferruleref01_TakeNum.calls kj9 t598 t611 t612 t613 _ A26.out).mono ?_); rintro e w' ⟨rfl, ⟨nd, rfl⟩⟩; refine ⟨_, rfl, ?_⟩))
                            (try simp only [Act.put, List.setIfInBounds_toArray, List.set_cons_zero, List.set_cons_succ])
                            go_cut [96] (fun v96 wc => ∃ (kq : Nat) (x96_26 : Bool), v96 = .bool x96_26 ∧ Aside0 (ferruleref17_Take.j2 kq t611 t612 x96_26 (wrap64 (rd t597 0)) (rd t597 1) (rd t597 2) (rd t597 3) (rd t597 4) (rd t597 5) (rd t597 6) false (⟨#[]⟩ : ByteArray) = some (r1, r2, r3, r4, r5, r6, r7, r8, r9, r10, r11)) ∧ Aside0 (kq ≤ kj9) ∧ Aside0 (wc.heap[gb593]? = some (.cells #[.int .i64 0, .int .u64 0, .int .u64 0, .int .u64 0, .int .u64 0, .int .u64 0, .int .u64 0, .bool false, (.slice none 0 0), .string (⟨#[]⟩ : ByteArray)] 57 (0, 0))) ∧ Aside0 (wc.heap[gb610]? = some (.cells #[.int .i64 (wrap64 (rd t597 0)), .int .u64 (rd t597 1), .int .u64 (rd t597 2), .int .u64 (rd t597 3), .int .u64 (rd t597 4), .int .u64 (rd t597 5), .int .u64 (rd t597 6), .bool false, (.slice none 0 0), .string (⟨#[]⟩ : ByteArray)] 57 (0, 0))) ∧ Aside0 (Below w.heap.size w wc))
                            case first =>
                              have H := HC27.out
                              clear HC27
                              by_cases c41 : t613 = 0
                              · rw [if_pos c41] at H
                                have c41b0 : (t613 == 0) = true := beq_iff_eq.mpr c41
                                have c41b1 : (t613 != 0) = false := bne_eq_false_iff_eq.mpr c41
                                clear c41
                                (first | rw [c41b0] | (simp only [i64_w, i32_w]; rw [c41b0]) | skip)
                                have H' := Aside0.mk H
                                clear H
                                go_wp2
                                go_meet
                                case rel => exact ⟨_, (decide (t611 > 1)), (by first | rfl | (simp; done) | (simp [*]; done)), H', ⟨by have := HJ2.out; have := HJ9.out; first | omega | exact Nat.le_refl _⟩, ⟨by (with_reducible repeat (first | refine blk_drewN ?_ _ | refine blk_drew ?_ | refine blk_alloc ?_ _)); exact BK593.out⟩, ⟨by (with_reducible repeat (first | refine blk_drewN ?_ _ | refine blk_drew ?_ | refine blk_alloc ?_ _)); exact BK610.out⟩, ⟨by repeat (first | (with_reducible first | exact HB.out | apply below_alloc | apply pw_below_drewN | apply below_drew1 | refine below_set ?_ GE593.out | refine below_set ?_ GE610.out) | exact HB.out)⟩⟩
                              · rw [if_neg c41] at H
                                have c41b0 : (t613 == 0) = false := beq_eq_false_iff_ne.mpr c41
                                have c41b1 : (t613 != 0) = true := bne_iff_ne.mpr c41
                                (first | rw [c41b0] | (simp only [i64_w, i32_w]; rw [c41b0]) | skip)
                                have H' := Aside0.mk H
                                clear H
                                go_wp2
                                go_meet
                                case rel => exact ⟨_, (true), (by first | rfl | (simp; done) | (simp [*]; done)), H', ⟨by have := HJ2.out; have := HJ9.out; first | omega | exact Nat.le_refl _⟩, ⟨by (with_reducible repeat (first | refine blk_drewN ?_ _ | refine blk_drew ?_ | refine blk_alloc ?_ _)); exact BK593.out⟩, ⟨by (with_reducible repeat (first | refine blk_drewN ?_ _ | refine blk_drew ?_ | refine blk_alloc ?_ _)); exact BK610.out⟩, ⟨by repeat (first | (with_reducible first | exact HB.out | apply below_alloc | apply pw_below_drewN | apply below_drew1 | refine below_set ?_ GE593.out | refine below_set ?_ GE610.out) | exact HB.out)⟩⟩
                            case rest =>
                              clear HC27
                              try clear c1
                              try clear c2
                              try clear p2
                              try clear c4
                              try clear c6
                              try clear c6b0
                              try clear c6b1
                              try clear p6
                              try clear q6
                              try clear hx6
                              try clear qi6
                              try clear c7
                              try clear c12
                              try clear c12b0
                              try clear c12b1
                              try clear c13
                              try clear c13b0
                              try clear c13b1
                              try clear c14
                              try clear c14b0
                              try clear c14b1
                              try clear c17
                              try clear c19
                              try clear c19b0
                              try clear c19b1
                              try clear c20
                              try clear c20b0
                              try clear c20b1
                              try clear c21
                              try clear c21b0
                              try clear c21b1
                              try clear c22
                              try clear c22b0
                              try clear c22b1
                              try clear c23
                              try clear c23b0
                              try clear c23b1
                              try clear c24
                              try clear c24b0
                              try clear c24b1
                              try clear c25
                              try clear c25b0
                              try clear c25b1
                              try clear c41
                              try clear c41b0
                              try clear c41b1
                              try clear hcz18_0
                              try clear hcz18_1
                              try clear hcz18_2
                              try clear hcz18_3
                              try clear hcz18_4
                              try clear hcz18_5
                              try clear hcz18_6
                              try clear hcz18_7
                              try clear hcz18_8
                              try clear hcz18_9
                              try clear hcz8_0
                              try clear hcz8_1
                              try clear hcz8_2
                              try clear hcz8_3
                              try clear hcz8_4
                              try clear hcz8_5
                              try clear hcz8_6
                              try clear hcz8_7
                              try clear hcz8_8
                              try clear hcz8_9
                              try clear hfz18_0
                              try clear hfz18_1
                              try clear hfz18_2
                              try clear hfz18_3
                              try clear hfz18_4
                              try clear hfz18_5
                              try clear hfz18_6
                              try clear hfz18_7
                              try clear hfz18_8
                              try clear hfz18_9
                              try clear hfz8_0
                              try clear hfz8_1
                              try clear hfz8_2
                              try clear hfz8_3
                              try clear hfz8_4
                              try clear hfz8_5
                              try clear hfz8_6
                              try clear hfz8_7
                              try clear hfz8_8
                              try clear hfz8_9
                              try clear hx602_0
                              try clear hx603_0
                              try clear hx604_0
                              try clear hx605_0
                              try clear hx606_0
                              try clear hx607_0
                              try clear hx608_0
                              try clear hx609_0
                              try clear p2
                              try clear p6
                              try clear p602
                              try clear p603
                              try clear p604
                              try clear p605
                              try clear p606
                              try clear p607
                              try clear p608
                              try clear p609
                              try clear q6
                              try clear q602
                              try clear q603
                              try clear q604
                              try clear q605
                              try clear q606
                              try clear q607
                              try clear q608
                              try clear q609
                              obtain ⟨kq, x96_26, rfl, HA, HJ26, BK593, BK610, HB⟩ := hcut
                              cases kq with
                              | zero => exact absurd HA.out (by simp [ferruleref17_Take.j2])
                              | succ kj26 =>
                                have H := HA.out
                                clear HA
                                simp only [ferruleref17_Take.j2] at H
                                by_cases c42 : x96_26 = true
                                · subst c42
                                  have H1 : (some (0, 0, 0, 0, 0, 0, 0, false, ([] : List (S75)), (⟨#[]⟩ : ByteArray), 3)) = some (r1, r2, r3, r4, r5, r6, r7, r8, r9, r10, r11) := by rw [if_pos rfl] at H; exact H
                                  clear H
                                  have H := H1
                                  clear H1
                                  simp only [Option.some.injEq, Prod.mk.injEq] at H
                                  obtain ⟨rfl, rfl, rfl, rfl, rfl, rfl, rfl, rfl, rfl, rfl, rfl⟩ := H
                                  have hnb43 := NB593_610.out
                                  have hnc43 := NB610_593.out
                                  have hcz44_0 : wc.cell? ⟨gb593, 0, none⟩ = some (.int .i64 0) := (blk_cell BK593.out 0).trans rfl
                                  have hcz44_1 : wc.cell? ⟨gb593, 1, none⟩ = some (.int .u64 0) := (blk_cell BK593.out 1).trans rfl
                                  have hcz44_2 : wc.cell? ⟨gb593, 2, none⟩ = some (.int .u64 0) := (blk_cell BK593.out 2).trans rfl
                                  have hcz44_3 : wc.cell? ⟨gb593, 3, none⟩ = some (.int .u64 0) := (blk_cell BK593.out 3).trans rfl
                                  have hcz44_4 : wc.cell? ⟨gb593, 4, none⟩ = some (.int .u64 0) := (blk_cell BK593.out 4).trans rfl
                                  have hcz44_5 : wc.cell? ⟨gb593, 5, none⟩ = some (.int .u64 0) := (blk_cell BK593.out 5).trans rfl
                                  have hcz44_6 : wc.cell? ⟨gb593, 6, none⟩ = some (.int .u64 0) := (blk_cell BK593.out 6).trans rfl
                                  have hcz44_7 : wc.cell? ⟨gb593, 7, none⟩ = some (.bool false) := (blk_cell BK593.out 7).trans rfl
                                  have hcz44_8 : wc.cell? ⟨gb593, 8, none⟩ = some (.slice none 0 0) := (blk_cell BK593.out 8).trans rfl
                                  have hcz44_9 : wc.cell? ⟨gb593, 9, none⟩ = some (.string (⟨#[]⟩ : ByteArray)) := (blk_cell BK593.out 9).trans rfl
                                  have hfz44_0 := blk_frozen BK593.out 0
                                  have hfz44_1 := blk_frozen BK593.out 1
                                  have hfz44_2 := blk_frozen BK593.out 2
                                  have hfz44_3 := blk_frozen BK593.out 3
                                  have hfz44_4 := blk_frozen BK593.out 4
                                  have hfz44_5 := blk_frozen BK593.out 5
                                  have hfz44_6 := blk_frozen BK593.out 6
                                  have hfz44_7 := blk_frozen BK593.out 7
                                  have hfz44_8 := blk_frozen BK593.out 8
                                  have hfz44_9 := blk_frozen BK593.out 9
                                  go_wp2
                                  refine bodyPost_ret (results_ct rfl _ _ gb593 57 #[.int .i64 0, .int .u64 0, .int .u64 0, .int .u64 0, .int .u64 0, .int .u64 0, .int .u64 0, .bool false, .slice none 0 0, .string (⟨#[]⟩ : ByteArray)] (0, 0) _ rfl (by (with_reducible repeat (first | refine blk_drewN ?_ _ | refine blk_drew ?_ | refine blk_alloc ?_ _)); refine blk_put (cs := #[.int .i64 0, .int .u64 0, .int .u64 0, .int .u64 0, .int .u64 0, .int .u64 0, .int .u64 0, .bool false, .slice none 0 0, .string (⟨#[]⟩ : ByteArray)]) ?_ 9 _ rfl; (with_reducible repeat (first | refine blk_drewN ?_ _ | refine blk_drew ?_ | refine blk_alloc ?_ _)); refine blk_put (cs := #[.int .i64 0, .int .u64 0, .int .u64 0, .int .u64 0, .int .u64 0, .int .u64 0, .int .u64 0, .bool false, .slice none 0 0, .string (⟨#[]⟩ : ByteArray)]) ?_ 8 _ rfl; (with_reducible repeat (first | refine blk_drewN ?_ _ | refine blk_drew ?_ | refine blk_alloc ?_ _)); refine blk_put (cs := #[.int .i64 0, .int .u64 0, .int .u64 0, .int .u64 0, .int .u64 0, .int .u64 0, .int .u64 0, .bool false, .slice none 0 0, .string (⟨#[]⟩ : ByteArray)]) ?_ 7 _ rfl; (with_reducible repeat (first | refine blk_drewN ?_ _ | refine blk_drew ?_ | refine blk_alloc ?_ _)); refine blk_put (cs := #[.int .i64 0, .int .u64 0, .int .u64 0, .int .u64 0, .int .u64 0, .int .u64 0, .int .u64 0, .bool false, .slice none 0 0, .string (⟨#[]⟩ : ByteArray)]) ?_ 6 _ rfl; (with_reducible repeat (first | refine blk_drewN ?_ _ | refine blk_drew ?_ | refine blk_alloc ?_ _)); refine blk_put (cs := #[.int .i64 0, .int .u64 0, .int .u64 0, .int .u64 0, .int .u64 0, .int .u64 0, .int .u64 0, .bool false, .slice none 0 0, .string (⟨#[]⟩ : ByteArray)]) ?_ 5 _ rfl; (with_reducible repeat (first | refine blk_drewN ?_ _ | refine blk_drew ?_ | refine blk_alloc ?_ _)); refine blk_put (cs := #[.int .i64 0, .int .u64 0, .int .u64 0, .int .u64 0, .int .u64 0, .int .u64 0, .int .u64 0, .bool false, .slice none 0 0, .string (⟨#[]⟩ : ByteArray)]) ?_ 4 _ rfl; (with_reducible repeat (first | refine blk_drewN ?_ _ | refine blk_drew ?_ | refine blk_alloc ?_ _)); refine blk_put (cs := #[.int .i64 0, .int .u64 0, .int .u64 0, .int .u64 0, .int .u64 0, .int .u64 0, .int .u64 0, .bool false, .slice none 0 0, .string (⟨#[]⟩ : ByteArray)]) ?_ 3 _ rfl; (with_reducible repeat (first | refine blk_drewN ?_ _ | refine blk_drew ?_ | refine blk_alloc ?_ _)); refine blk_put (cs := #[.int .i64 0, .int .u64 0, .int .u64 0, .int .u64 0, .int .u64 0, .int .u64 0, .int .u64 0, .bool false, .slice none 0 0, .string (⟨#[]⟩ : ByteArray)]) ?_ 2 _ rfl; (with_reducible repeat (first | refine blk_drewN ?_ _ | refine blk_drew ?_ | refine blk_alloc ?_ _)); refine blk_put (cs := #[.int .i64 0, .int .u64 0, .int .u64 0, .int .u64 0, .int .u64 0, .int .u64 0, .int .u64 0, .bool false, .slice none 0 0, .string (⟨#[]⟩ : ByteArray)]) ?_ 1 _ rfl; (with_reducible repeat (first | refine blk_drewN ?_ _ | refine blk_drew ?_ | refine blk_alloc ?_ _)); refine blk_put (cs := #[.int .i64 0, .int .u64 0, .int .u64 0, .int .u64 0, .int .u64 0, .int .u64 0, .int .u64 0, .bool false, .slice none 0 0, .string (⟨#[]⟩ : ByteArray)]) ?_ 0 _ rfl; (with_reducible repeat (first | refine blk_drewN ?_ _ | refine blk_drew ?_ | refine blk_alloc ?_ _)); exact BK593.out) Try.underlying57 rfl (by kernel_rfl)) rfl ?_
                                  exact ⟨_, by first | rfl | (simp [errW_none, errW_some] <;> rfl) | (simp [*, errW_none, errW_some] <;> rfl), by first | exact Kd.R_nil _ _ _ _ _ | exact Kd.N_nil _ _ _ _ _ | exact Kd.V_nil _ _ _ _ _ | exact Kd.Q_nil _ _ _ _ _ | exact Kd.S_nil _ _ _ _ _, by repeat (first | (with_reducible first | exact HB.out | apply below_alloc | apply pw_below_drewN | apply below_drew1 | refine below_set ?_ GE593.out | refine below_set ?_ GE610.out) | exact HB.out)⟩
                                · replace c42 := Bool.eq_false_iff.mpr c42
                                  subst c42
                                  have H1 : ((ferruleref01_TakeNum.f kj26 t612).bind fun bt614 => (if bt614.2.2 = 0 then (ferruleref17_Take.j3 kj26 t611 bt614.1 bt614.2.1 (decide (bt614.1 > 8)) (wrap64 (rd t597 0)) (rd t597 1) (rd t597 2) (rd t597 3) (rd t597 4) (rd t597 5) (rd t597 6) false (⟨#[]⟩ : ByteArray)) else (ferruleref17_Take.j3 kj26 t611 bt614.1 bt614.2.1 true (wrap64 (rd t597 0)) (rd t597 1) (rd t597 2) (rd t597 3) (rd t597 4) (rd t597 5) (rd t597 6) false (⟨#[]⟩ : ByteArray)))) = some (r1, r2, r3, r4, r5, r6, r7, r8, r9, r10, r11) := by rw [if_neg (show ¬ (false = true) by decide)] at H; exact H
                                  clear H
                                  have H := H1
                                  clear H1
                                  replace H := Option.bind_eq_some_iff.mp H
                                  obtain ⟨⟨t614, t615, t616⟩, A450, H⟩ := H
                                  replace H : (if t616 = 0 then (ferruleref17_Take.j3 kj26 t611 t614 t615 (decide (t614 > 8)) (wrap64 (rd t597 0)) (rd t597 1) (rd t597 2) (rd t597 3) (rd t597 4) (rd t597 5) (rd t597 6) false (⟨#[]⟩ : ByteArray)) else (ferruleref17_Take.j3 kj26 t611 t614 t615 true (wrap64 (rd t597 0)) (rd t597 1) (rd t597 2) (rd t597 3) (rd t597 4) (rd t597 5) (rd t597 6) false (⟨#[]⟩ : ByteArray))) = some (r1, r2, r3, r4, r5, r6, r7, r8, r9, r10, r11) := H
                                  have A45 := Aside0.mk A450
                                  clear A450
                                  have HC46 := Aside0.mk H
                                  clear H
                                  go_upto_region 12 with (first | ((with_reducible refine gate_callee (f := 75) rfl ?_); refine goesL_ (some 100) rfl rfl Try.func75 (by kernel_rfl) rfl #[.string t612] rfl (by (try simp only [List.map_toArray, List.map_cons, List.map_nil]); first | done | rfl | (simp only [List.length_drop, List.length_take]; rfl)) ?_; (with_reducible refine (ferruleref01_TakeNum.calls kj26 t612 t614 t615 t616 _ A45.out).mono ?_); rintro e w' ⟨rfl, ⟨nd, rfl⟩⟩; refine ⟨_, rfl, ?_⟩))
                                  (try simp only [Act.put, List.setIfInBounds_toArray, List.set_cons_zero, List.set_cons_succ])
                                  go_cut [109] (fun v109 wc => ∃ (kq : Nat) (x109_45 : Bool), v109 = .bool x109_45 ∧ Aside0 (ferruleref17_Take.j3 kq t611 t614 t615 x109_45 (wrap64 (rd t597 0)) (rd t597 1) (rd t597 2) (rd t597 3) (rd t597 4) (rd t597 5) (rd t597 6) false (⟨#[]⟩ : ByteArray) = some (r1, r2, r3, r4, r5, r6, r7, r8, r9, r10, r11)) ∧ Aside0 (kq ≤ kj26) ∧ Aside0 (wc.heap[gb593]? = some (.cells #[.int .i64 0, .int .u64 0, .int .u64 0, .int .u64 0, .int .u64 0, .int .u64 0, .int .u64 0, .bool false, (.slice none 0 0), .string (⟨#[]⟩ : ByteArray)] 57 (0, 0))) ∧ Aside0 (wc.heap[gb610]? = some (.cells #[.int .i64 (wrap64 (rd t597 0)), .int .u64 (rd t597 1), .int .u64 (rd t597 2), .int .u64 (rd t597 3), .int .u64 (rd t597 4), .int .u64 (rd t597 5), .int .u64 (rd t597 6), .bool false, (.slice none 0 0), .string (⟨#[]⟩ : ByteArray)] 57 (0, 0))) ∧ Aside0 (Below w.heap.size w wc))
                                  case first =>
                                    have H := HC46.out
                                    clear HC46
                                    by_cases c47 : t616 = 0
                                    · rw [if_pos c47] at H
                                      have c47b0 : (t616 == 0) = true := beq_iff_eq.mpr c47
                                      have c47b1 : (t616 != 0) = false := bne_eq_false_iff_eq.mpr c47
                                      clear c47
                                      (first | rw [c47b0] | (simp only [i64_w, i32_w]; rw [c47b0]) | skip)
                                      have H' := Aside0.mk H
                                      clear H
                                      go_wp2
                                      go_meet
                                      case rel => exact ⟨_, (decide (t614 > 8)), (by first | rfl | (simp; done) | (simp [*]; done)), H', ⟨by have := HJ2.out; have := HJ9.out; have := HJ26.out; first | omega | exact Nat.le_refl _⟩, ⟨by (with_reducible repeat (first | refine blk_drewN ?_ _ | refine blk_drew ?_ | refine blk_alloc ?_ _)); exact BK593.out⟩, ⟨by (with_reducible repeat (first | refine blk_drewN ?_ _ | refine blk_drew ?_ | refine blk_alloc ?_ _)); exact BK610.out⟩, ⟨by repeat (first | (with_reducible first | exact HB.out | apply below_alloc | apply pw_below_drewN | apply below_drew1 | refine below_set ?_ GE593.out | refine below_set ?_ GE610.out) | exact HB.out)⟩⟩
                                    · rw [if_neg c47] at H
                                      have c47b0 : (t616 == 0) = false := beq_eq_false_iff_ne.mpr c47
                                      have c47b1 : (t616 != 0) = true := bne_iff_ne.mpr c47
                                      (first | rw [c47b0] | (simp only [i64_w, i32_w]; rw [c47b0]) | skip)
                                      have H' := Aside0.mk H
                                      clear H
                                      go_wp2
                                      go_meet
                                      case rel => exact ⟨_, (true), (by first | rfl | (simp; done) | (simp [*]; done)), H', ⟨by have := HJ2.out; have := HJ9.out; have := HJ26.out; first | omega | exact Nat.le_refl _⟩, ⟨by (with_reducible repeat (first | refine blk_drewN ?_ _ | refine blk_drew ?_ | refine blk_alloc ?_ _)); exact BK593.out⟩, ⟨by (with_reducible repeat (first | refine blk_drewN ?_ _ | refine blk_drew ?_ | refine blk_alloc ?_ _)); exact BK610.out⟩, ⟨by repeat (first | (with_reducible first | exact HB.out | apply below_alloc | apply pw_below_drewN | apply below_drew1 | refine below_set ?_ GE593.out | refine below_set ?_ GE610.out) | exact HB.out)⟩⟩
                                  case rest =>
                                    clear HC46
                                    try clear c1
                                    try clear c2
                                    try clear p2
                                    try clear c4
                                    try clear c6
                                    try clear c6b0
                                    try clear c6b1
                                    try clear p6
                                    try clear q6
                                    try clear hx6
                                    try clear qi6
                                    try clear c7
                                    try clear c12
                                    try clear c12b0
                                    try clear c12b1
                                    try clear c13
                                    try clear c13b0
                                    try clear c13b1
                                    try clear c14
                                    try clear c14b0
                                    try clear c14b1
                                    try clear c17
                                    try clear c19
                                    try clear c19b0
                                    try clear c19b1
                                    try clear c20
                                    try clear c20b0
                                    try clear c20b1
                                    try clear c21
                                    try clear c21b0
                                    try clear c21b1
                                    try clear c22
                                    try clear c22b0
                                    try clear c22b1
                                    try clear c23
                                    try clear c23b0
                                    try clear c23b1
                                    try clear c24
                                    try clear c24b0
                                    try clear c24b1
                                    try clear c25
                                    try clear c25b0
                                    try clear c25b1
                                    try clear c41
                                    try clear c41b0
                                    try clear c41b1
                                    try clear c42
                                    try clear c43
                                    try clear c47
                                    try clear c47b0
                                    try clear c47b1
                                    try clear hcz18_0
                                    try clear hcz18_1
                                    try clear hcz18_2
                                    try clear hcz18_3
                                    try clear hcz18_4
                                    try clear hcz18_5
                                    try clear hcz18_6
                                    try clear hcz18_7
                                    try clear hcz18_8
                                    try clear hcz18_9
                                    try clear hcz44_0
                                    try clear hcz44_1
                                    try clear hcz44_2
                                    try clear hcz44_3
                                    try clear hcz44_4
                                    try clear hcz44_5
                                    try clear hcz44_6
                                    try clear hcz44_7
                                    try clear hcz44_8
                                    try clear hcz44_9
                                    try clear hcz8_0
                                    try clear hcz8_1
                                    try clear hcz8_2
                                    try clear hcz8_3
                                    try clear hcz8_4
                                    try clear hcz8_5
                                    try clear hcz8_6
                                    try clear hcz8_7
                                    try clear hcz8_8
                                    try clear hcz8_9
                                    try clear hfz18_0
                                    try clear hfz18_1
                                    try clear hfz18_2
                                    try clear hfz18_3
                                    try clear hfz18_4
                                    try clear hfz18_5
                                    try clear hfz18_6
                                    try clear hfz18_7
                                    try clear hfz18_8
                                    try clear hfz18_9
                                    try clear hfz44_0
                                    try clear hfz44_1
                                    try clear hfz44_2
                                    try clear hfz44_3
                                    try clear hfz44_4
                                    try clear hfz44_5
                                    try clear hfz44_6
                                    try clear hfz44_7
                                    try clear hfz44_8
                                    try clear hfz44_9
                                    try clear hfz8_0
                                    try clear hfz8_1
                                    try clear hfz8_2
                                    try clear hfz8_3
                                    try clear hfz8_4
                                    try clear hfz8_5
                                    try clear hfz8_6
                                    try clear hfz8_7
                                    try clear hfz8_8
                                    try clear hfz8_9
                                    try clear hx602_0
                                    try clear hx603_0
                                    try clear hx604_0
                                    try clear hx605_0
                                    try clear hx606_0
                                    try clear hx607_0
                                    try clear hx608_0
                                    try clear hx609_0
                                    try clear p2
                                    try clear p6
                                    try clear p602
                                    try clear p603
                                    try clear p604
                                    try clear p605
                                    try clear p606
                                    try clear p607
                                    try clear p608
                                    try clear p609
                                    try clear q6
                                    try clear q602
                                    try clear q603
                                    try clear q604
                                    try clear q605
                                    try clear q606
                                    try clear q607
                                    try clear q608
                                    try clear q609
                                    obtain ⟨kq, x109_45, rfl, HA, HJ45, BK593, BK610, HB⟩ := hcut
                                    cases kq with
                                    | zero => exact absurd HA.out (by simp [ferruleref17_Take.j3])
                                    | succ kj45 =>
                                      have H := HA.out
                                      clear HA
                                      simp only [ferruleref17_Take.j3] at H
                                      by_cases c48 : x109_45 = true
                                      · subst c48
                                        have H1 : (some (0, 0, 0, 0, 0, 0, 0, false, ([] : List (S75)), (⟨#[]⟩ : ByteArray), 3)) = some (r1, r2, r3, r4, r5, r6, r7, r8, r9, r10, r11) := by rw [if_pos rfl] at H; exact H
                                        clear H
                                        have H := H1
                                        clear H1
                                        simp only [Option.some.injEq, Prod.mk.injEq] at H
                                        obtain ⟨rfl, rfl, rfl, rfl, rfl, rfl, rfl, rfl, rfl, rfl, rfl⟩ := H
                                        have hnb49 := NB593_610.out
                                        have hnc49 := NB610_593.out
                                        have hcz50_0 : wc.cell? ⟨gb593, 0, none⟩ = some (.int .i64 0) := (blk_cell BK593.out 0).trans rfl
                                        have hcz50_1 : wc.cell? ⟨gb593, 1, none⟩ = some (.int .u64 0) := (blk_cell BK593.out 1).trans rfl
                                        have hcz50_2 : wc.cell? ⟨gb593, 2, none⟩ = some (.int .u64 0) := (blk_cell BK593.out 2).trans rfl
                                        have hcz50_3 : wc.cell? ⟨gb593, 3, none⟩ = some (.int .u64 0) := (blk_cell BK593.out 3).trans rfl
                                        have hcz50_4 : wc.cell? ⟨gb593, 4, none⟩ = some (.int .u64 0) := (blk_cell BK593.out 4).trans rfl
                                        have hcz50_5 : wc.cell? ⟨gb593, 5, none⟩ = some (.int .u64 0) := (blk_cell BK593.out 5).trans rfl
                                        have hcz50_6 : wc.cell? ⟨gb593, 6, none⟩ = some (.int .u64 0) := (blk_cell BK593.out 6).trans rfl
                                        have hcz50_7 : wc.cell? ⟨gb593, 7, none⟩ = some (.bool false) := (blk_cell BK593.out 7).trans rfl
                                        have hcz50_8 : wc.cell? ⟨gb593, 8, none⟩ = some (.slice none 0 0) := (blk_cell BK593.out 8).trans rfl
                                        have hcz50_9 : wc.cell? ⟨gb593, 9, none⟩ = some (.string (⟨#[]⟩ : ByteArray)) := (blk_cell BK593.out 9).trans rfl
                                        have hfz50_0 := blk_frozen BK593.out 0
                                        have hfz50_1 := blk_frozen BK593.out 1
                                        have hfz50_2 := blk_frozen BK593.out 2
                                        have hfz50_3 := blk_frozen BK593.out 3
                                        have hfz50_4 := blk_frozen BK593.out 4
                                        have hfz50_5 := blk_frozen BK593.out 5
                                        have hfz50_6 := blk_frozen BK593.out 6
                                        have hfz50_7 := blk_frozen BK593.out 7
                                        have hfz50_8 := blk_frozen BK593.out 8
                                        have hfz50_9 := blk_frozen BK593.out 9
                                        go_wp2
                                        refine bodyPost_ret (results_ct rfl _ _ gb593 57 #[.int .i64 0, .int .u64 0, .int .u64 0, .int .u64 0, .int .u64 0, .int .u64 0, .int .u64 0, .bool false, .slice none 0 0, .string (⟨#[]⟩ : ByteArray)] (0, 0) _ rfl (by (with_reducible repeat (first | refine blk_drewN ?_ _ | refine blk_drew ?_ | refine blk_alloc ?_ _)); refine blk_put (cs := #[.int .i64 0, .int .u64 0, .int .u64 0, .int .u64 0, .int .u64 0, .int .u64 0, .int .u64 0, .bool false, .slice none 0 0, .string (⟨#[]⟩ : ByteArray)]) ?_ 9 _ rfl; (with_reducible repeat (first | refine blk_drewN ?_ _ | refine blk_drew ?_ | refine blk_alloc ?_ _)); refine blk_put (cs := #[.int .i64 0, .int .u64 0, .int .u64 0, .int .u64 0, .int .u64 0, .int .u64 0, .int .u64 0, .bool false, .slice none 0 0, .string (⟨#[]⟩ : ByteArray)]) ?_ 8 _ rfl; (with_reducible repeat (first | refine blk_drewN ?_ _ | refine blk_drew ?_ | refine blk_alloc ?_ _)); refine blk_put (cs := #[.int .i64 0, .int .u64 0, .int .u64 0, .int .u64 0, .int .u64 0, .int .u64 0, .int .u64 0, .bool false, .slice none 0 0, .string (⟨#[]⟩ : ByteArray)]) ?_ 7 _ rfl; (with_reducible repeat (first | refine blk_drewN ?_ _ | refine blk_drew ?_ | refine blk_alloc ?_ _)); refine blk_put (cs := #[.int .i64 0, .int .u64 0, .int .u64 0, .int .u64 0, .int .u64 0, .int .u64 0, .int .u64 0, .bool false, .slice none 0 0, .string (⟨#[]⟩ : ByteArray)]) ?_ 6 _ rfl; (with_reducible repeat (first | refine blk_drewN ?_ _ | refine blk_drew ?_ | refine blk_alloc ?_ _)); refine blk_put (cs := #[.int .i64 0, .int .u64 0, .int .u64 0, .int .u64 0, .int .u64 0, .int .u64 0, .int .u64 0, .bool false, .slice none 0 0, .string (⟨#[]⟩ : ByteArray)]) ?_ 5 _ rfl; (with_reducible repeat (first | refine blk_drewN ?_ _ | refine blk_drew ?_ | refine blk_alloc ?_ _)); refine blk_put (cs := #[.int .i64 0, .int .u64 0, .int .u64 0, .int .u64 0, .int .u64 0, .int .u64 0, .int .u64 0, .bool false, .slice none 0 0, .string (⟨#[]⟩ : ByteArray)]) ?_ 4 _ rfl; (with_reducible repeat (first | refine blk_drewN ?_ _ | refine blk_drew ?_ | refine blk_alloc ?_ _)); refine blk_put (cs := #[.int .i64 0, .int .u64 0, .int .u64 0, .int .u64 0, .int .u64 0, .int .u64 0, .int .u64 0, .bool false, .slice none 0 0, .string (⟨#[]⟩ : ByteArray)]) ?_ 3 _ rfl; (with_reducible repeat (first | refine blk_drewN ?_ _ | refine blk_drew ?_ | refine blk_alloc ?_ _)); refine blk_put (cs := #[.int .i64 0, .int .u64 0, .int .u64 0, .int .u64 0, .int .u64 0, .int .u64 0, .int .u64 0, .bool false, .slice none 0 0, .string (⟨#[]⟩ : ByteArray)]) ?_ 2 _ rfl; (with_reducible repeat (first | refine blk_drewN ?_ _ | refine blk_drew ?_ | refine blk_alloc ?_ _)); refine blk_put (cs := #[.int .i64 0, .int .u64 0, .int .u64 0, .int .u64 0, .int .u64 0, .int .u64 0, .int .u64 0, .bool false, .slice none 0 0, .string (⟨#[]⟩ : ByteArray)]) ?_ 1 _ rfl; (with_reducible repeat (first | refine blk_drewN ?_ _ | refine blk_drew ?_ | refine blk_alloc ?_ _)); refine blk_put (cs := #[.int .i64 0, .int .u64 0, .int .u64 0, .int .u64 0, .int .u64 0, .int .u64 0, .int .u64 0, .bool false, .slice none 0 0, .string (⟨#[]⟩ : ByteArray)]) ?_ 0 _ rfl; (with_reducible repeat (first | refine blk_drewN ?_ _ | refine blk_drew ?_ | refine blk_alloc ?_ _)); exact BK593.out) Try.underlying57 rfl (by kernel_rfl)) rfl ?_
                                        exact ⟨_, by first | rfl | (simp [errW_none, errW_some] <;> rfl) | (simp [*, errW_none, errW_some] <;> rfl), by first | exact Kd.R_nil _ _ _ _ _ | exact Kd.N_nil _ _ _ _ _ | exact Kd.V_nil _ _ _ _ _ | exact Kd.Q_nil _ _ _ _ _ | exact Kd.S_nil _ _ _ _ _, by repeat (first | (with_reducible first | exact HB.out | apply below_alloc | apply pw_below_drewN | apply below_drew1 | refine below_set ?_ GE593.out | refine below_set ?_ GE610.out) | exact HB.out)⟩
                                      · replace c48 := Bool.eq_false_iff.mpr c48
                                        subst c48
                                        have H1 : (ferruleref17_Take.l0 kj45 t614 t615 0 (wrap64 (rd t597 0)) (rd t597 1) (rd t597 2) (rd t597 3) (rd t597 4) (rd t597 5) (rd t597 6) (t611 == 1) ([] : List (S75)) (⟨#[]⟩ : ByteArray)) = some (r1, r2, r3, r4, r5, r6, r7, r8, r9, r10, r11) := by rw [if_neg (show ¬ (false = true) by decide)] at H; exact H
                                        clear H
                                        have H := H1
                                        clear H1
                                        have H' := Aside0.mk H
                                        clear H
                                        have hnb51 := NB610_593.out
                                        have hnc51 := NB593_610.out
                                        have hcz52_0 : wc.cell? ⟨gb610, 0, none⟩ = some (.int .i64 (wrap64 (rd t597 0))) := (blk_cell BK610.out 0).trans rfl
                                        have hcz52_1 : wc.cell? ⟨gb610, 1, none⟩ = some (.int .u64 (rd t597 1)) := (blk_cell BK610.out 1).trans rfl
                                        have hcz52_2 : wc.cell? ⟨gb610, 2, none⟩ = some (.int .u64 (rd t597 2)) := (blk_cell BK610.out 2).trans rfl
                                        have hcz52_3 : wc.cell? ⟨gb610, 3, none⟩ = some (.int .u64 (rd t597 3)) := (blk_cell BK610.out 3).trans rfl
                                        have hcz52_4 : wc.cell? ⟨gb610, 4, none⟩ = some (.int .u64 (rd t597 4)) := (blk_cell BK610.out 4).trans rfl
                                        have hcz52_5 : wc.cell? ⟨gb610, 5, none⟩ = some (.int .u64 (rd t597 5)) := (blk_cell BK610.out 5).trans rfl
                                        have hcz52_6 : wc.cell? ⟨gb610, 6, none⟩ = some (.int .u64 (rd t597 6)) := (blk_cell BK610.out 6).trans rfl
                                        have hcz52_7 : wc.cell? ⟨gb610, 7, none⟩ = some (.bool false) := (blk_cell BK610.out 7).trans rfl
                                        have hcz52_8 : wc.cell? ⟨gb610, 8, none⟩ = some (.slice none 0 0) := (blk_cell BK610.out 8).trans rfl
                                        have hcz52_9 : wc.cell? ⟨gb610, 9, none⟩ = some (.string (⟨#[]⟩ : ByteArray)) := (blk_cell BK610.out 9).trans rfl
                                        have hfz52_0 := blk_frozen BK610.out 0
                                        have hfz52_1 := blk_frozen BK610.out 1
                                        have hfz52_2 := blk_frozen BK610.out 2
                                        have hfz52_3 := blk_frozen BK610.out 3
                                        have hfz52_4 := blk_frozen BK610.out 4
                                        have hfz52_5 := blk_frozen BK610.out 5
                                        have hfz52_6 := blk_frozen BK610.out 6
                                        have hfz52_7 := blk_frozen BK610.out 7
                                        have hfz52_8 := blk_frozen BK610.out 8
                                        have hfz52_9 := blk_frozen BK610.out 9
                                        go_wp2
                                        go_loopg [15, 17] kj45 (fun kq v15 v17 w' => ∃ (x15_5 : ByteArray) (x17_5 : Int) (x594000_5 : Int) (x594001_5 : Int) (x594002_5 : Int) (x594003_5 : Int) (x594004_5 : Int) (x594005_5 : Int) (x594006_5 : Int) (x594007_5 : Bool) (x594009_5 : ByteArray) (x611008_5 : List (S75)) (u611008 : Value), v15 = .string x15_5 ∧ v17 = .int .u64 x17_5 ∧ Aside0 (ferruleref17_Take.l0 kq t614 x15_5 x17_5 (wrap64 (rd t597 0)) (rd t597 1) (rd t597 2) (rd t597 3) (rd t597 4) (rd t597 5) (rd t597 6) (t611 == 1) x611008_5 (⟨#[]⟩ : ByteArray) = some (r1, r2, r3, r4, r5, r6, r7, r8, r9, r10, r11)) ∧ Aside0 (kq ≤ kj45) ∧ Aside0 (Kd.R k75 75 w' w.heap.size (fun _ => True) u611008 x611008_5) ∧ Aside0 (w'.heap[gb593]? = some (.cells #[.int .i64 x594000_5, .int .u64 x594001_5, .int .u64 x594002_5, .int .u64 x594003_5, .int .u64 x594004_5, .int .u64 x594005_5, .int .u64 x594006_5, .bool x594007_5, (.slice none 0 0), .string x594009_5] 57 (0, 0))) ∧ Aside0 (w'.heap[gb610]? = some (.cells #[.int .i64 (wrap64 (rd t597 0)), .int .u64 (rd t597 1), .int .u64 (rd t597 2), .int .u64 (rd t597 3), .int .u64 (rd t597 4), .int .u64 (rd t597 5), .int .u64 (rd t597 6), .bool (t611 == 1), u611008, .string (⟨#[]⟩ : ByteArray)] 57 (0, 0))) ∧ Aside0 (Below w.heap.size w w'))
                                        case atStart => exact ⟨(t615), (0), (0), (0), (0), (0), (0), (0), (0), (false), ((⟨#[]⟩ : ByteArray)), (([] : List (S75))), (.slice none 0 0), (by first | rfl | (simp; done) | (simp [*]; done)), (by first | rfl | (simp; done) | (simp [*]; done)), H', ⟨Nat.le_refl _⟩, ⟨by first | exact Kd.R_nil _ _ _ _ _ | exact Kd.N_nil _ _ _ _ _ | exact Kd.V_nil _ _ _ _ _ | exact Kd.Q_nil _ _ _ _ _ | exact Kd.S_nil _ _ _ _ _⟩, ⟨by (with_reducible repeat (first | refine blk_drewN ?_ _ | refine blk_drew ?_ | refine blk_alloc ?_ _)); refine blk_far ?_ NB593_610.out _; (with_reducible repeat (first | refine blk_drewN ?_ _ | refine blk_drew ?_ | refine blk_alloc ?_ _)); exact BK593.out⟩, ⟨by (with_reducible repeat (first | refine blk_drewN ?_ _ | refine blk_drew ?_ | refine blk_alloc ?_ _)); refine blk_put (cs := #[.int .i64 (wrap64 (rd t597 0)), .int .u64 (rd t597 1), .int .u64 (rd t597 2), .int .u64 (rd t597 3), .int .u64 (rd t597 4), .int .u64 (rd t597 5), .int .u64 (rd t597 6), .bool false, .slice none 0 0, .string (⟨#[]⟩ : ByteArray)]) ?_ 7 _ rfl; (with_reducible repeat (first | refine blk_drewN ?_ _ | refine blk_drew ?_ | refine blk_alloc ?_ _)); exact BK610.out⟩, ⟨by repeat (first | (with_reducible first | exact HB.out | apply below_alloc | apply pw_below_drewN | apply below_drew1 | refine below_set ?_ GE593.out | refine below_set ?_ GE610.out) | exact HB.out)⟩⟩
                                        case round =>
                                          clear H'
                                          try clear c1
                                          try clear c2
                                          try clear p2
                                          try clear c4
                                          try clear c5
                                          try clear c6
                                          try clear c6b0
                                          try clear c6b1
                                          try clear p6
                                          try clear q6
                                          try clear hx6
                                          try clear qi6
                                          try clear c7
                                          try clear c12
                                          try clear c12b0
                                          try clear c12b1
                                          try clear c13
                                          try clear c13b0
                                          try clear c13b1
                                          try clear c14
                                          try clear c14b0
                                          try clear c14b1
                                          try clear c17
                                          try clear c19
                                          try clear c19b0
                                          try clear c19b1
                                          try clear c20
                                          try clear c20b0
                                          try clear c20b1
                                          try clear c21
                                          try clear c21b0
                                          try clear c21b1
                                          try clear c22
                                          try clear c22b0
                                          try clear c22b1
                                          try clear c23
                                          try clear c23b0
                                          try clear c23b1
                                          try clear c24
                                          try clear c24b0
                                          try clear c24b1
                                          try clear c25
                                          try clear c25b0
                                          try clear c25b1
                                          try clear c41
                                          try clear c41b0
                                          try clear c41b1
                                          try clear c42
                                          try clear c43
                                          try clear c47
                                          try clear c47b0
                                          try clear c47b1
                                          try clear c48
                                          try clear c49
                                          try clear c51
                                          try clear hcz18_0
                                          try clear hcz18_1
                                          try clear hcz18_2
                                          try clear hcz18_3
                                          try clear hcz18_4
                                          try clear hcz18_5
                                          try clear hcz18_6
                                          try clear hcz18_7
                                          try clear hcz18_8
                                          try clear hcz18_9
                                          try clear hcz44_0
                                          try clear hcz44_1
                                          try clear hcz44_2
                                          try clear hcz44_3
                                          try clear hcz44_4
                                          try clear hcz44_5
                                          try clear hcz44_6
                                          try clear hcz44_7
                                          try clear hcz44_8
                                          try clear hcz44_9
                                          try clear hcz50_0
                                          try clear hcz50_1
                                          try clear hcz50_2
                                          try clear hcz50_3
                                          try clear hcz50_4
                                          try clear hcz50_5
                                          try clear hcz50_6
                                          try clear hcz50_7
                                          try clear hcz50_8
                                          try clear hcz50_9
                                          try clear hcz52_0
                                          try clear hcz52_1
                                          try clear hcz52_2
                                          try clear hcz52_3
                                          try clear hcz52_4
                                          try clear hcz52_5
                                          try clear hcz52_6
                                          try clear hcz52_7
                                          try clear hcz52_8
                                          try clear hcz52_9
                                          try clear hcz8_0
                                          try clear hcz8_1
                                          try clear hcz8_2
                                          try clear hcz8_3
                                          try clear hcz8_4
                                          try clear hcz8_5
                                          try clear hcz8_6
                                          try clear hcz8_7
                                          try clear hcz8_8
                                          try clear hcz8_9
                                          try clear hfz18_0
                                          try clear hfz18_1
                                          try clear hfz18_2
                                          try clear hfz18_3
                                          try clear hfz18_4
                                          try clear hfz18_5
                                          try clear hfz18_6
                                          try clear hfz18_7
                                          try clear hfz18_8
                                          try clear hfz18_9
                                          try clear hfz44_0
                                          try clear hfz44_1
                                          try clear hfz44_2
                                          try clear hfz44_3
                                          try clear hfz44_4
                                          try clear hfz44_5
                                          try clear hfz44_6
                                          try clear hfz44_7
                                          try clear hfz44_8
                                          try clear hfz44_9
                                          try clear hfz50_0
                                          try clear hfz50_1
                                          try clear hfz50_2
                                          try clear hfz50_3
                                          try clear hfz50_4
                                          try clear hfz50_5
                                          try clear hfz50_6
                                          try clear hfz50_7
                                          try clear hfz50_8
                                          try clear hfz50_9
                                          try clear hfz52_0
                                          try clear hfz52_1
                                          try clear hfz52_2
                                          try clear hfz52_3
                                          try clear hfz52_4
                                          try clear hfz52_5
                                          try clear hfz52_6
                                          try clear hfz52_7
                                          try clear hfz52_8
                                          try clear hfz52_9
                                          try clear hfz8_0
                                          try clear hfz8_1
                                          try clear hfz8_2
                                          try clear hfz8_3
                                          try clear hfz8_4
                                          try clear hfz8_5
                                          try clear hfz8_6
                                          try clear hfz8_7
                                          try clear hfz8_8
                                          try clear hfz8_9
                                          try clear hx602_0
                                          try clear hx603_0
                                          try clear hx604_0
                                          try clear hx605_0
                                          try clear hx606_0
                                          try clear hx607_0
                                          try clear hx608_0
                                          try clear hx609_0
                                          try clear p2
                                          try clear p6
                                          try clear p602
                                          try clear p603
                                          try clear p604
                                          try clear p605
                                          try clear p606
                                          try clear p607
                                          try clear p608
                                          try clear p609
                                          try clear q6
                                          try clear q602
                                          try clear q603
                                          try clear q604
                                          try clear q605
                                          try clear q606
                                          try clear q607
                                          try clear q608
                                          try clear q609
                                          obtain ⟨x15_5, x17_5, x594000_5, x594001_5, x594002_5, x594003_5, x594004_5, x594005_5, x594006_5, x594007_5, x594009_5, x611008_5, u611008, rfl, rfl, HA, HK5, HO_611008, BK593, BK610, HB⟩ := hrel
                                          cases gk with
                                          | zero => exact absurd HA.out (by simp [ferruleref17_Take.l0])
                                          | succ k5 =>
                                            have H := HA.out
                                            clear HA
                                            simp only [ferruleref17_Take.l0] at H
                                            by_cases c53 : x17_5 < t614
                                            · rw [if_pos c53] at H
                                              have c53b0 : decide (x17_5 < t614) = true := decide_eq_true c53
                                              clear c53
                                              replace H := Option.bind_eq_some_iff.mp H
                                              obtain ⟨⟨t617, t618, t619⟩, A540, H⟩ := H
                                              replace H : ((ferruleref01_TakeText.f k5 t618).bind fun bt620 => (if t619 = 0 then (if bt620.2.2 = 0 then (if x611008_5.length < 5864062014805 then (ferruleref17_Take.l0 k5 t614 bt620.2.1 (IntKind.u64.wrap (x17_5 + 1)) (wrap64 (rd t597 0)) (rd t597 1) (rd t597 2) (rd t597 3) (rd t597 4) (rd t597 5) (rd t597 6) (t611 == 1) (x611008_5 ++ [(⟨t617, bt620.1⟩ : S75)]) (⟨#[]⟩ : ByteArray)) else (none)) else (some (0, 0, 0, 0, 0, 0, 0, false, ([] : List (S75)), (⟨#[]⟩ : ByteArray), 3))) else (some (0, 0, 0, 0, 0, 0, 0, false, ([] : List (S75)), (⟨#[]⟩ : ByteArray), 3)))) = some (r1, r2, r3, r4, r5, r6, r7, r8, r9, r10, r11) := H
                                              have A54 := Aside0.mk A540
                                              clear A540
                                              replace H := Option.bind_eq_some_iff.mp H
                                              obtain ⟨⟨t620, t621, t622⟩, A550, H⟩ := H
                                              replace H : (if t619 = 0 then (if t622 = 0 then (if x611008_5.length < 5864062014805 then (ferruleref17_Take.l0 k5 t614 t621 (IntKind.u64.wrap (x17_5 + 1)) (wrap64 (rd t597 0)) (rd t597 1) (rd t597 2) (rd t597 3) (rd t597 4) (rd t597 5) (rd t597 6) (t611 == 1) (x611008_5 ++ [(⟨t617, t620⟩ : S75)]) (⟨#[]⟩ : ByteArray)) else (none)) else (some (0, 0, 0, 0, 0, 0, 0, false, ([] : List (S75)), (⟨#[]⟩ : ByteArray), 3))) else (some (0, 0, 0, 0, 0, 0, 0, false, ([] : List (S75)), (⟨#[]⟩ : ByteArray), 3))) = some (r1, r2, r3, r4, r5, r6, r7, r8, r9, r10, r11) := H
                                              have A55 := Aside0.mk A550
                                              clear A550
                                              by_cases c56 : t619 = 0
                                              · rw [if_pos c56] at H
                                                have c56b0 : (t619 == 0) = true := beq_iff_eq.mpr c56
                                                have c56b1 : (t619 != 0) = false := bne_eq_false_iff_eq.mpr c56
                                                clear c56
                                                by_cases c57 : t622 = 0
                                                · rw [if_pos c57] at H
                                                  have c57b0 : (t622 == 0) = true := beq_iff_eq.mpr c57
                                                  have c57b1 : (t622 != 0) = false := bne_eq_false_iff_eq.mpr c57
                                                  clear c57
                                                  by_cases c58 : x611008_5.length < 5864062014805
                                                  · rw [if_pos c58] at H
                                                    have LMc58 := Aside0.mk c58
                                                    clear c58
                                                    obtain ⟨y623, hy623⟩ : ∃ y_ : List (S75), y_ = (x611008_5 ++ [(⟨t617, t620⟩ : S75)]) := ⟨_, rfl⟩
                                                    replace H : (ferruleref17_Take.l0 k5 t614 t621 (IntKind.u64.wrap (x17_5 + 1)) (wrap64 (rd t597 0)) (rd t597 1) (rd t597 2) (rd t597 3) (rd t597 4) (rd t597 5) (rd t597 6) (t611 == 1) y623 (⟨#[]⟩ : ByteArray)) = some (r1, r2, r3, r4, r5, r6, r7, r8, r9, r10, r11) := by first | (rw [hy623]; with_reducible exact H) | (have H2_ := (Option.bind_some _ _).symm.trans H; rw [hy623]; with_reducible exact H2_) | (have H2_ := (Option.bind_some _ _).symm.trans H; with_reducible exact H2_) | with_reducible exact H | (rw [hy623]; exact H) | exact H
                                                    have Ny623 := Aside0.mk hy623
                                                    clear hy623
                                                    have H' := Aside0.mk H
                                                    clear H
                                                    go_wp2_with (first | ((with_reducible refine gate_callee (f := 75) rfl ?_); refine goesL_ (some 121) rfl rfl Try.func75 (by kernel_rfl) rfl #[.string x15_5] rfl (by (try simp only [List.map_toArray, List.map_cons, List.map_nil]); first | done | rfl | (simp only [List.length_drop, List.length_take]; rfl)) ?_; (with_reducible refine (ferruleref01_TakeNum.calls k5 x15_5 t617 t618 t619 _ A54.out).mono ?_); rintro e w' ⟨rfl, ⟨nd, rfl⟩⟩; refine ⟨_, rfl, ?_⟩; (try (rw [drewN_self wr]; generalize hq_ : World.drewN wr _ = wr; have n0_ : Aside0 (Kd.R k75 75 wr w.heap.size (fun _ => True) u611008 x611008_5) := ⟨by rw [← hq_]; exact (by (with_reducible repeat (first | apply Kd.R_alloc | apply Kd.R_drewN | apply Kd.R_drew)); exact HO_611008.out)⟩; have n1_ : Aside0 (wr.heap[gb593]? = some (.cells #[.int .i64 x594000_5, .int .u64 x594001_5, .int .u64 x594002_5, .int .u64 x594003_5, .int .u64 x594004_5, .int .u64 x594005_5, .int .u64 x594006_5, .bool x594007_5, .slice none 0 0, .string x594009_5] 57 (0, 0))) := ⟨by rw [← hq_]; exact (by (with_reducible repeat (first | refine blk_drewN ?_ _ | refine blk_drew ?_ | refine blk_alloc ?_ _)); exact BK593.out)⟩; have n2_ : Aside0 (wr.heap[gb610]? = some (.cells #[.int .i64 (wrap64 (rd t597 0)), .int .u64 (rd t597 1), .int .u64 (rd t597 2), .int .u64 (rd t597 3), .int .u64 (rd t597 4), .int .u64 (rd t597 5), .int .u64 (rd t597 6), .bool (t611 == 1), u611008, .string (⟨#[]⟩ : ByteArray)] 57 (0, 0))) := ⟨by rw [← hq_]; exact (by (with_reducible repeat (first | refine blk_drewN ?_ _ | refine blk_drew ?_ | refine blk_alloc ?_ _)); exact BK610.out)⟩; have n3_ : Aside0 (Below w.heap.size w wr) := ⟨by rw [← hq_]; exact (by repeat (first | (with_reducible first | exact HB.out | apply below_alloc | apply pw_below_drewN | apply below_drew1 | refine below_set ?_ GE593.out | refine below_set ?_ GE610.out) | exact HB.out))⟩; clear HO_611008 BK593 BK610 HB hq_; have HO_611008 := n0_; have BK593 := n1_; have BK610 := n2_; have HB := n3_; clear n0_ n1_ n2_ n3_))) | ((with_reducible refine gate_callee (f := 76) rfl ?_); refine goesL_ (some 127) rfl rfl Try.func76 (by kernel_rfl) rfl #[.string t618] rfl (by (try simp only [List.map_toArray, List.map_cons, List.map_nil]); first | done | rfl | (simp only [List.length_drop, List.length_take]; rfl)) ?_; (with_reducible refine (ferruleref01_TakeText.calls k5 t618 t620 t621 t622 _ A55.out).mono ?_); rintro e w' ⟨rfl, ⟨nd, rfl⟩⟩; refine ⟨_, rfl, ?_⟩; (try (rw [drewN_self wr]; generalize hq_ : World.drewN wr _ = wr; have n0_ : Aside0 (Kd.R k75 75 wr w.heap.size (fun _ => True) u611008 x611008_5) := ⟨by rw [← hq_]; exact (by (with_reducible repeat (first | apply Kd.R_alloc | apply Kd.R_drewN | apply Kd.R_drew)); exact HO_611008.out)⟩; have n1_ : Aside0 (wr.heap[gb593]? = some (.cells #[.int .i64 x594000_5, .int .u64 x594001_5, .int .u64 x594002_5, .int .u64 x594003_5, .int .u64 x594004_5, .int .u64 x594005_5, .int .u64 x594006_5, .bool x594007_5, .slice none 0 0, .string x594009_5] 57 (0, 0))) := ⟨by rw [← hq_]; exact (by (with_reducible repeat (first | refine blk_drewN ?_ _ | refine blk_drew ?_ | refine blk_alloc ?_ _)); exact BK593.out)⟩; have n2_ : Aside0 (wr.heap[gb610]? = some (.cells #[.int .i64 (wrap64 (rd t597 0)), .int .u64 (rd t597 1), .int .u64 (rd t597 2), .int .u64 (rd t597 3), .int .u64 (rd t597 4), .int .u64 (rd t597 5), .int .u64 (rd t597 6), .bool (t611 == 1), u611008, .string (⟨#[]⟩ : ByteArray)] 57 (0, 0))) := ⟨by rw [← hq_]; exact (by (with_reducible repeat (first | refine blk_drewN ?_ _ | refine blk_drew ?_ | refine blk_alloc ?_ _)); exact BK610.out)⟩; have n3_ : Aside0 (Below w.heap.size w wr) := ⟨by rw [← hq_]; exact (by repeat (first | (with_reducible first | exact HB.out | apply below_alloc | apply pw_below_drewN | apply below_drew1 | refine below_set ?_ GE593.out | refine below_set ?_ GE610.out) | exact HB.out))⟩; clear HO_611008 BK593 BK610 HB hq_; have HO_611008 := n0_; have BK593 := n1_; have BK610 := n2_; have HB := n3_; clear n0_ n1_ n2_ n3_)); have hnb59 := NB610_593.out; have hnc59 := NB593_610.out; have hcz60_0 : wr.cell? ⟨gb610, 0, none⟩ = some (.int .i64 (wrap64 (rd t597 0))) := (blk_cell BK610.out 0).trans rfl; have hcz60_1 : wr.cell? ⟨gb610, 1, none⟩ = some (.int .u64 (rd t597 1)) := (blk_cell BK610.out 1).trans rfl; have hcz60_2 : wr.cell? ⟨gb610, 2, none⟩ = some (.int .u64 (rd t597 2)) := (blk_cell BK610.out 2).trans rfl; have hcz60_3 : wr.cell? ⟨gb610, 3, none⟩ = some (.int .u64 (rd t597 3)) := (blk_cell BK610.out 3).trans rfl; have hcz60_4 : wr.cell? ⟨gb610, 4, none⟩ = some (.int .u64 (rd t597 4)) := (blk_cell BK610.out 4).trans rfl; have hcz60_5 : wr.cell? ⟨gb610, 5, none⟩ = some (.int .u64 (rd t597 5)) := (blk_cell BK610.out 5).trans rfl; have hcz60_6 : wr.cell? ⟨gb610, 6, none⟩ = some (.int .u64 (rd t597 6)) := (blk_cell BK610.out 6).trans rfl; have hcz60_7 : wr.cell? ⟨gb610, 7, none⟩ = some (.bool (t611 == 1)) := (blk_cell BK610.out 7).trans rfl; have hcz60_8 : wr.cell? ⟨gb610, 8, none⟩ = some (u611008) := (blk_cell BK610.out 8).trans rfl; have hcz60_9 : wr.cell? ⟨gb610, 9, none⟩ = some (.string (⟨#[]⟩ : ByteArray)) := (blk_cell BK610.out 9).trans rfl; have hfz60_0 := blk_frozen BK610.out 0; have hfz60_1 := blk_frozen BK610.out 1; have hfz60_2 := blk_frozen BK610.out 2; have hfz60_3 := blk_frozen BK610.out 3; have hfz60_4 := blk_frozen BK610.out 4; have hfz60_5 := blk_frozen BK610.out 5; have hfz60_6 := blk_frozen BK610.out 6; have hfz60_7 := blk_frozen BK610.out 7; have hfz60_8 := blk_frozen BK610.out 8; have hfz60_9 := blk_frozen BK610.out 9) | ((with_reducible refine gate_builtin (b := .append) (xs := #[.tmp 139, .tmp 143]) rfl ?_); (try (refine gate_guard (by rfl) ?_; dsimp only)); at_builtin; refine Kd.R_append k75 (w0 := w) w.heap.size rfl (.tmp 139) (.tmp 143) 26 75 (.agg #[(.int .u64 0), (.string ⟨#[]⟩)]) 24 rfl Try.underlying26 info75 rfl (by decide) (by omega) u611008 x611008_5 (⟨t617, t620⟩ : S75) [.int .u64 t617, .string t620] (fun _ => True) (fun _ => False) rfl rfl ?aP (fun _ hk => hk.elim) ?aF ?aO ?aB ?aS ?aL ?_; (case aP => exact k75_mkM _ _ _ (⟨t617, t620⟩ : S75)); (case aB => exact (by repeat (first | (with_reducible first | exact HB.out | apply below_alloc | apply pw_below_drewN | apply below_drew1 | refine below_set ?_ GE593.out | refine below_set ?_ GE610.out) | exact HB.out))); (case aF => exact (fun _ _ => trivial)); (case aO => exact (by (with_reducible repeat (first | apply Kd.R_alloc | apply Kd.R_drewN | apply Kd.R_drew)); exact HO_611008.out)); (case aS => exact (below_size (by repeat (first | (with_reducible first | exact HB.out | apply below_alloc | apply pw_below_drewN | apply below_drew1 | refine below_set ?_ GE593.out | refine below_set ?_ GE610.out) | exact HB.out)))); (case aL => have := LMc58.out; omega); intro v624 w61 ho hb hg hat; rw [← Ny623.out] at ho; have n0_ := Aside0.mk (blk_grown (g := gb593) (o := .cells #[.int .i64 x594000_5, .int .u64 x594001_5, .int .u64 x594002_5, .int .u64 x594003_5, .int .u64 x594004_5, .int .u64 x594005_5, .int .u64 x594006_5, .bool x594007_5, .slice none 0 0, .string x594009_5] 57 (0, 0)) (by (with_reducible repeat (first | refine blk_drewN ?_ _ | refine blk_drew ?_ | refine blk_alloc ?_ _)); exact BK593.out) hg (Kd.R_ne HO_611008.out BK593.out (by decide))); have n1_ := Aside0.mk (blk_grown (g := gb610) (o := .cells #[.int .i64 (wrap64 (rd t597 0)), .int .u64 (rd t597 1), .int .u64 (rd t597 2), .int .u64 (rd t597 3), .int .u64 (rd t597 4), .int .u64 (rd t597 5), .int .u64 (rd t597 6), .bool (t611 == 1), u611008, .string (⟨#[]⟩ : ByteArray)] 57 (0, 0)) (by (with_reducible repeat (first | refine blk_drewN ?_ _ | refine blk_drew ?_ | refine blk_alloc ?_ _)); exact BK610.out) hg (Kd.R_ne HO_611008.out BK610.out (by decide))); have n2_ := Aside0.mk (hb); have n3_ := Aside0.mk (ho); clear BK593; clear BK610; clear HB; clear HO_611008; have BK593 := n0_; have BK610 := n1_; have HB := n2_; have HO625 := n3_; clear n0_ n1_ n2_ n3_; clear ho hb hg hat; obtain ⟨Ao62, co62, eo62⟩ := Kd.R_slice HO625.out; subst eo62; have hcz63_0 : w61.cell? ⟨gb610, 0, none⟩ = some (.int .i64 (wrap64 (rd t597 0))) := (blk_cell BK610.out 0).trans rfl; have hcz63_1 : w61.cell? ⟨gb610, 1, none⟩ = some (.int .u64 (rd t597 1)) := (blk_cell BK610.out 1).trans rfl; have hcz63_2 : w61.cell? ⟨gb610, 2, none⟩ = some (.int .u64 (rd t597 2)) := (blk_cell BK610.out 2).trans rfl; have hcz63_3 : w61.cell? ⟨gb610, 3, none⟩ = some (.int .u64 (rd t597 3)) := (blk_cell BK610.out 3).trans rfl; have hcz63_4 : w61.cell? ⟨gb610, 4, none⟩ = some (.int .u64 (rd t597 4)) := (blk_cell BK610.out 4).trans rfl; have hcz63_5 : w61.cell? ⟨gb610, 5, none⟩ = some (.int .u64 (rd t597 5)) := (blk_cell BK610.out 5).trans rfl; have hcz63_6 : w61.cell? ⟨gb610, 6, none⟩ = some (.int .u64 (rd t597 6)) := (blk_cell BK610.out 6).trans rfl; have hcz63_7 : w61.cell? ⟨gb610, 7, none⟩ = some (.bool (t611 == 1)) := (blk_cell BK610.out 7).trans rfl; have hcz63_8 : w61.cell? ⟨gb610, 8, none⟩ = some (u611008) := (blk_cell BK610.out 8).trans rfl; have hcz63_9 : w61.cell? ⟨gb610, 9, none⟩ = some (.string (⟨#[]⟩ : ByteArray)) := (blk_cell BK610.out 9).trans rfl; have hfz63_0 := blk_frozen BK610.out 0; have hfz63_1 := blk_frozen BK610.out 1; have hfz63_2 := blk_frozen BK610.out 2; have hfz63_3 := blk_frozen BK610.out 3; have hfz63_4 := blk_frozen BK610.out 4; have hfz63_5 := blk_frozen BK610.out 5; have hfz63_6 := blk_frozen BK610.out 6; have hfz63_7 := blk_frozen BK610.out 7; have hfz63_8 := blk_frozen BK610.out 8; have hfz63_9 := blk_frozen BK610.out 9))
                                                    go_roundg k5
                                                    case measure => have := HJ2.out; have := HJ9.out; have := HJ26.out; have := HJ45.out; have := HK5.out; omega
                                                    case rel => exact ⟨(t621), (IntKind.u64.wrap (x17_5 + 1)), (x594000_5), (x594001_5), (x594002_5), (x594003_5), (x594004_5), (x594005_5), (x594006_5), (x594007_5), (x594009_5), (y623), (.slice Ao62 y623.length co62), (by first | rfl | (simp; done) | (simp [*]; done)), (by first | rfl | (simp; done) | (simp [*]; done)), H', ⟨by have := HJ2.out; have := HJ9.out; have := HJ26.out; have := HJ45.out; have := HK5.out; omega⟩, ⟨by (with_reducible repeat (first | apply Kd.R_alloc | apply Kd.R_drewN | apply Kd.R_drew)); exact Kd.R_mono (Kd.R_far (p := ⟨gb610, 8, none⟩) (Kd.R_types HO625.out BK610.out (by decide)) (fun _ hk => hk.2) (.slice Ao62 y623.length co62)) (fun _ hk => trivial)⟩, ⟨by (with_reducible repeat (first | refine blk_drewN ?_ _ | refine blk_drew ?_ | refine blk_alloc ?_ _)); refine blk_far ?_ NB593_610.out _; (with_reducible repeat (first | refine blk_drewN ?_ _ | refine blk_drew ?_ | refine blk_alloc ?_ _)); exact BK593.out⟩, ⟨by (with_reducible repeat (first | refine blk_drewN ?_ _ | refine blk_drew ?_ | refine blk_alloc ?_ _)); refine blk_put (cs := #[.int .i64 (wrap64 (rd t597 0)), .int .u64 (rd t597 1), .int .u64 (rd t597 2), .int .u64 (rd t597 3), .int .u64 (rd t597 4), .int .u64 (rd t597 5), .int .u64 (rd t597 6), .bool (t611 == 1), u611008, .string (⟨#[]⟩ : ByteArray)]) ?_ 8 _ rfl; (with_reducible repeat (first | refine blk_drewN ?_ _ | refine blk_drew ?_ | refine blk_alloc ?_ _)); exact BK610.out⟩, ⟨by repeat (first | (with_reducible first | exact HB.out | apply below_alloc | apply pw_below_drewN | apply below_drew1 | refine below_set ?_ GE593.out | refine below_set ?_ GE610.out) | exact HB.out)⟩⟩
                                                  · rw [if_neg c58] at H
                                                    exact absurd H (by simp)
                                                · rw [if_neg c57] at H
                                                  have c57b0 : (t622 == 0) = false := beq_eq_false_iff_ne.mpr c57
                                                  have c57b1 : (t622 != 0) = true := bne_iff_ne.mpr c57
                                                  simp only [Option.some.injEq, Prod.mk.injEq] at H
                                                  obtain ⟨rfl, rfl, rfl, rfl, rfl, rfl, rfl, rfl, rfl, rfl, rfl⟩ := H
                                                  go_wp2_with (first | ((with_reducible refine gate_callee (f := 75) rfl ?_); refine goesL_ (some 121) rfl rfl Try.func75 (by kernel_rfl) rfl #[.string x15_5] rfl (by (try simp only [List.map_toArray, List.map_cons, List.map_nil]); first | done | rfl | (simp only [List.length_drop, List.length_take]; rfl)) ?_; (with_reducible refine (ferruleref01_TakeNum.calls k5 x15_5 t617 t618 t619 _ A54.out).mono ?_); rintro e w' ⟨rfl, ⟨nd, rfl⟩⟩; refine ⟨_, rfl, ?_⟩; (try (rw [drewN_self wr]; generalize hq_ : World.drewN wr _ = wr; have n0_ : Aside0 (Kd.R k75 75 wr w.heap.size (fun _ => True) u611008 x611008_5) := ⟨by rw [← hq_]; exact (by (with_reducible repeat (first | apply Kd.R_alloc | apply Kd.R_drewN | apply Kd.R_drew)); exact HO_611008.out)⟩; have n1_ : Aside0 (wr.heap[gb593]? = some (.cells #[.int .i64 x594000_5, .int .u64 x594001_5, .int .u64 x594002_5, .int .u64 x594003_5, .int .u64 x594004_5, .int .u64 x594005_5, .int .u64 x594006_5, .bool x594007_5, .slice none 0 0, .string x594009_5] 57 (0, 0))) := ⟨by rw [← hq_]; exact (by (with_reducible repeat (first | refine blk_drewN ?_ _ | refine blk_drew ?_ | refine blk_alloc ?_ _)); exact BK593.out)⟩; have n2_ : Aside0 (wr.heap[gb610]? = some (.cells #[.int .i64 (wrap64 (rd t597 0)), .int .u64 (rd t597 1), .int .u64 (rd t597 2), .int .u64 (rd t597 3), .int .u64 (rd t597 4), .int .u64 (rd t597 5), .int .u64 (rd t597 6), .bool (t611 == 1), u611008, .string (⟨#[]⟩ : ByteArray)] 57 (0, 0))) := ⟨by rw [← hq_]; exact (by (with_reducible repeat (first | refine blk_drewN ?_ _ | refine blk_drew ?_ | refine blk_alloc ?_ _)); exact BK610.out)⟩; have n3_ : Aside0 (Below w.heap.size w wr) := ⟨by rw [← hq_]; exact (by repeat (first | (with_reducible first | exact HB.out | apply below_alloc | apply pw_below_drewN | apply below_drew1 | refine below_set ?_ GE593.out | refine below_set ?_ GE610.out) | exact HB.out))⟩; clear HO_611008 BK593 BK610 HB hq_; have HO_611008 := n0_; have BK593 := n1_; have BK610 := n2_; have HB := n3_; clear n0_ n1_ n2_ n3_))) | ((with_reducible refine gate_callee (f := 76) rfl ?_); refine goesL_ (some 127) rfl rfl Try.func76 (by kernel_rfl) rfl #[.string t618] rfl (by (try simp only [List.map_toArray, List.map_cons, List.map_nil]); first | done | rfl | (simp only [List.length_drop, List.length_take]; rfl)) ?_; (with_reducible refine (ferruleref01_TakeText.calls k5 t618 t620 t621 t622 _ A55.out).mono ?_); rintro e w' ⟨rfl, ⟨nd, rfl⟩⟩; refine ⟨_, rfl, ?_⟩; (try (rw [drewN_self wr]; generalize hq_ : World.drewN wr _ = wr; have n0_ : Aside0 (Kd.R k75 75 wr w.heap.size (fun _ => True) u611008 x611008_5) := ⟨by rw [← hq_]; exact (by (with_reducible repeat (first | apply Kd.R_alloc | apply Kd.R_drewN | apply Kd.R_drew)); exact HO_611008.out)⟩; have n1_ : Aside0 (wr.heap[gb593]? = some (.cells #[.int .i64 x594000_5, .int .u64 x594001_5, .int .u64 x594002_5, .int .u64 x594003_5, .int .u64 x594004_5, .int .u64 x594005_5, .int .u64 x594006_5, .bool x594007_5, .slice none 0 0, .string x594009_5] 57 (0, 0))) := ⟨by rw [← hq_]; exact (by (with_reducible repeat (first | refine blk_drewN ?_ _ | refine blk_drew ?_ | refine blk_alloc ?_ _)); exact BK593.out)⟩; have n2_ : Aside0 (wr.heap[gb610]? = some (.cells #[.int .i64 (wrap64 (rd t597 0)), .int .u64 (rd t597 1), .int .u64 (rd t597 2), .int .u64 (rd t597 3), .int .u64 (rd t597 4), .int .u64 (rd t597 5), .int .u64 (rd t597 6), .bool (t611 == 1), u611008, .string (⟨#[]⟩ : ByteArray)] 57 (0, 0))) := ⟨by rw [← hq_]; exact (by (with_reducible repeat (first | refine blk_drewN ?_ _ | refine blk_drew ?_ | refine blk_alloc ?_ _)); exact BK610.out)⟩; have n3_ : Aside0 (Below w.heap.size w wr) := ⟨by rw [← hq_]; exact (by repeat (first | (with_reducible first | exact HB.out | apply below_alloc | apply pw_below_drewN | apply below_drew1 | refine below_set ?_ GE593.out | refine below_set ?_ GE610.out) | exact HB.out))⟩; clear HO_611008 BK593 BK610 HB hq_; have HO_611008 := n0_; have BK593 := n1_; have BK610 := n2_; have HB := n3_; clear n0_ n1_ n2_ n3_)); have hnb64 := NB593_610.out; have hnc64 := NB610_593.out; have hcz65_0 : wr.cell? ⟨gb593, 0, none⟩ = some (.int .i64 x594000_5) := (blk_cell BK593.out 0).trans rfl; have hcz65_1 : wr.cell? ⟨gb593, 1, none⟩ = some (.int .u64 x594001_5) := (blk_cell BK593.out 1).trans rfl; have hcz65_2 : wr.cell? ⟨gb593, 2, none⟩ = some (.int .u64 x594002_5) := (blk_cell BK593.out 2).trans rfl; have hcz65_3 : wr.cell? ⟨gb593, 3, none⟩ = some (.int .u64 x594003_5) := (blk_cell BK593.out 3).trans rfl; have hcz65_4 : wr.cell? ⟨gb593, 4, none⟩ = some (.int .u64 x594004_5) := (blk_cell BK593.out 4).trans rfl; have hcz65_5 : wr.cell? ⟨gb593, 5, none⟩ = some (.int .u64 x594005_5) := (blk_cell BK593.out 5).trans rfl; have hcz65_6 : wr.cell? ⟨gb593, 6, none⟩ = some (.int .u64 x594006_5) := (blk_cell BK593.out 6).trans rfl; have hcz65_7 : wr.cell? ⟨gb593, 7, none⟩ = some (.bool x594007_5) := (blk_cell BK593.out 7).trans rfl; have hcz65_8 : wr.cell? ⟨gb593, 8, none⟩ = some (.slice none 0 0) := (blk_cell BK593.out 8).trans rfl; have hcz65_9 : wr.cell? ⟨gb593, 9, none⟩ = some (.string x594009_5) := (blk_cell BK593.out 9).trans rfl; have hfz65_0 := blk_frozen BK593.out 0; have hfz65_1 := blk_frozen BK593.out 1; have hfz65_2 := blk_frozen BK593.out 2; have hfz65_3 := blk_frozen BK593.out 3; have hfz65_4 := blk_frozen BK593.out 4; have hfz65_5 := blk_frozen BK593.out 5; have hfz65_6 := blk_frozen BK593.out 6; have hfz65_7 := blk_frozen BK593.out 7; have hfz65_8 := blk_frozen BK593.out 8; have hfz65_9 := blk_frozen BK593.out 9))
                                                  refine bodyPost_ret (results_ct rfl _ _ gb593 57 #[.int .i64 0, .int .u64 0, .int .u64 0, .int .u64 0, .int .u64 0, .int .u64 0, .int .u64 0, .bool false, .slice none 0 0, .string (⟨#[]⟩ : ByteArray)] (0, 0) _ rfl (by (with_reducible repeat (first | refine blk_drewN ?_ _ | refine blk_drew ?_ | refine blk_alloc ?_ _)); refine blk_put (cs := #[.int .i64 0, .int .u64 0, .int .u64 0, .int .u64 0, .int .u64 0, .int .u64 0, .int .u64 0, .bool false, .slice none 0 0, .string x594009_5]) ?_ 9 _ rfl; (with_reducible repeat (first | refine blk_drewN ?_ _ | refine blk_drew ?_ | refine blk_alloc ?_ _)); refine blk_put (cs := #[.int .i64 0, .int .u64 0, .int .u64 0, .int .u64 0, .int .u64 0, .int .u64 0, .int .u64 0, .bool false, .slice none 0 0, .string x594009_5]) ?_ 8 _ rfl; (with_reducible repeat (first | refine blk_drewN ?_ _ | refine blk_drew ?_ | refine blk_alloc ?_ _)); refine blk_put (cs := #[.int .i64 0, .int .u64 0, .int .u64 0, .int .u64 0, .int .u64 0, .int .u64 0, .int .u64 0, .bool x594007_5, .slice none 0 0, .string x594009_5]) ?_ 7 _ rfl; (with_reducible repeat (first | refine blk_drewN ?_ _ | refine blk_drew ?_ | refine blk_alloc ?_ _)); refine blk_put (cs := #[.int .i64 0, .int .u64 0, .int .u64 0, .int .u64 0, .int .u64 0, .int .u64 0, .int .u64 x594006_5, .bool x594007_5, .slice none 0 0, .string x594009_5]) ?_ 6 _ rfl; (with_reducible repeat (first | refine blk_drewN ?_ _ | refine blk_drew ?_ | refine blk_alloc ?_ _)); refine blk_put (cs := #[.int .i64 0, .int .u64 0, .int .u64 0, .int .u64 0, .int .u64 0, .int .u64 x594005_5, .int .u64 x594006_5, .bool x594007_5, .slice none 0 0, .string x594009_5]) ?_ 5 _ rfl; (with_reducible repeat (first | refine blk_drewN ?_ _ | refine blk_drew ?_ | refine blk_alloc ?_ _)); refine blk_put (cs := #[.int .i64 0, .int .u64 0, .int .u64 0, .int .u64 0, .int .u64 x594004_5, .int .u64 x594005_5, .int .u64 x594006_5, .bool x594007_5, .slice none 0 0, .string x594009_5]) ?_ 4 _ rfl; (with_reducible repeat (first | refine blk_drewN ?_ _ | refine blk_drew ?_ | refine blk_alloc ?_ _)); refine blk_put (cs := #[.int .i64 0, .int .u64 0, .int .u64 0, .int .u64 x594003_5, .int .u64 x594004_5, .int .u64 x594005_5, .int .u64 x594006_5, .bool x594007_5, .slice none 0 0, .string x594009_5]) ?_ 3 _ rfl; (with_reducible repeat (first | refine blk_drewN ?_ _ | refine blk_drew ?_ | refine blk_alloc ?_ _)); refine blk_put (cs := #[.int .i64 0, .int .u64 0, .int .u64 x594002_5, .int .u64 x594003_5, .int .u64 x594004_5, .int .u64 x594005_5, .int .u64 x594006_5, .bool x594007_5, .slice none 0 0, .string x594009_5]) ?_ 2 _ rfl; (with_reducible repeat (first | refine blk_drewN ?_ _ | refine blk_drew ?_ | refine blk_alloc ?_ _)); refine blk_put (cs := #[.int .i64 0, .int .u64 x594001_5, .int .u64 x594002_5, .int .u64 x594003_5, .int .u64 x594004_5, .int .u64 x594005_5, .int .u64 x594006_5, .bool x594007_5, .slice none 0 0, .string x594009_5]) ?_ 1 _ rfl; (with_reducible repeat (first | refine blk_drewN ?_ _ | refine blk_drew ?_ | refine blk_alloc ?_ _)); refine blk_put (cs := #[.int .i64 x594000_5, .int .u64 x594001_5, .int .u64 x594002_5, .int .u64 x594003_5, .int .u64 x594004_5, .int .u64 x594005_5, .int .u64 x594006_5, .bool x594007_5, .slice none 0 0, .string x594009_5]) ?_ 0 _ rfl; (with_reducible repeat (first | refine blk_drewN ?_ _ | refine blk_drew ?_ | refine blk_alloc ?_ _)); exact BK593.out) Try.underlying57 rfl (by kernel_rfl)) rfl ?_
                                                  exact ⟨_, by first | rfl | (simp [errW_none, errW_some] <;> rfl) | (simp [*, errW_none, errW_some] <;> rfl), by first | exact Kd.R_nil _ _ _ _ _ | exact Kd.N_nil _ _ _ _ _ | exact Kd.V_nil _ _ _ _ _ | exact Kd.Q_nil _ _ _ _ _ | exact Kd.S_nil _ _ _ _ _, by repeat (first | (with_reducible first | exact HB.out | apply below_alloc | apply pw_below_drewN | apply below_drew1 | refine below_set ?_ GE593.out | refine below_set ?_ GE610.out) | exact HB.out)⟩
                                              · rw [if_neg c56] at H
                                                have c56b0 : (t619 == 0) = false := beq_eq_false_iff_ne.mpr c56
                                                have c56b1 : (t619 != 0) = true := bne_iff_ne.mpr c56
                                                simp only [Option.some.injEq, Prod.mk.injEq] at H
                                                obtain ⟨rfl, rfl, rfl, rfl, rfl, rfl, rfl, rfl, rfl, rfl, rfl⟩ := H
                                                go_wp2_with (first | ((with_reducible refine gate_callee (f := 75) rfl ?_); refine goesL_ (some 121) rfl rfl Try.func75 (by kernel_rfl) rfl #[.string x15_5] rfl (by (try simp only [List.map_toArray, List.map_cons, List.map_nil]); first | done | rfl | (simp only [List.length_drop, List.length_take]; rfl)) ?_; (with_reducible refine (ferruleref01_TakeNum.calls k5 x15_5 t617 t618 t619 _ A54.out).mono ?_); rintro e w' ⟨rfl, ⟨nd, rfl⟩⟩; refine ⟨_, rfl, ?_⟩; (try (rw [drewN_self wr]; generalize hq_ : World.drewN wr _ = wr; have n0_ : Aside0 (Kd.R k75 75 wr w.heap.size (fun _ => True) u611008 x611008_5) := ⟨by rw [← hq_]; exact (by (with_reducible repeat (first | apply Kd.R_alloc | apply Kd.R_drewN | apply Kd.R_drew)); exact HO_611008.out)⟩; have n1_ : Aside0 (wr.heap[gb593]? = some (.cells #[.int .i64 x594000_5, .int .u64 x594001_5, .int .u64 x594002_5, .int .u64 x594003_5, .int .u64 x594004_5, .int .u64 x594005_5, .int .u64 x594006_5, .bool x594007_5, .slice none 0 0, .string x594009_5] 57 (0, 0))) := ⟨by rw [← hq_]; exact (by (with_reducible repeat (first | refine blk_drewN ?_ _ | refine blk_drew ?_ | refine blk_alloc ?_ _)); exact BK593.out)⟩; have n2_ : Aside0 (wr.heap[gb610]? = some (.cells #[.int .i64 (wrap64 (rd t597 0)), .int .u64 (rd t597 1), .int .u64 (rd t597 2), .int .u64 (rd t597 3), .int .u64 (rd t597 4), .int .u64 (rd t597 5), .int .u64 (rd t597 6), .bool (t611 == 1), u611008, .string (⟨#[]⟩ : ByteArray)] 57 (0, 0))) := ⟨by rw [← hq_]; exact (by (with_reducible repeat (first | refine blk_drewN ?_ _ | refine blk_drew ?_ | refine blk_alloc ?_ _)); exact BK610.out)⟩; have n3_ : Aside0 (Below w.heap.size w wr) := ⟨by rw [← hq_]; exact (by repeat (first | (with_reducible first | exact HB.out | apply below_alloc | apply pw_below_drewN | apply below_drew1 | refine below_set ?_ GE593.out | refine below_set ?_ GE610.out) | exact HB.out))⟩; clear HO_611008 BK593 BK610 HB hq_; have HO_611008 := n0_; have BK593 := n1_; have BK610 := n2_; have HB := n3_; clear n0_ n1_ n2_ n3_))) | ((with_reducible refine gate_callee (f := 76) rfl ?_); refine goesL_ (some 127) rfl rfl Try.func76 (by kernel_rfl) rfl #[.string t618] rfl (by (try simp only [List.map_toArray, List.map_cons, List.map_nil]); first | done | rfl | (simp only [List.length_drop, List.length_take]; rfl)) ?_; (with_reducible refine (ferruleref01_TakeText.calls k5 t618 t620 t621 t622 _ A55.out).mono ?_); rintro e w' ⟨rfl, ⟨nd, rfl⟩⟩; refine ⟨_, rfl, ?_⟩; (try (rw [drewN_self wr]; generalize hq_ : World.drewN wr _ = wr; have n0_ : Aside0 (Kd.R k75 75 wr w.heap.size (fun _ => True) u611008 x611008_5) := ⟨by rw [← hq_]; exact (by (with_reducible repeat (first | apply Kd.R_alloc | apply Kd.R_drewN | apply Kd.R_drew)); exact HO_611008.out)⟩; have n1_ : Aside0 (wr.heap[gb593]? = some (.cells #[.int .i64 x594000_5, .int .u64 x594001_5, .int .u64 x594002_5, .int .u64 x594003_5, .int .u64 x594004_5, .int .u64 x594005_5, .int .u64 x594006_5, .bool x594007_5, .slice none 0 0, .string x594009_5] 57 (0, 0))) := ⟨by rw [← hq_]; exact (by (with_reducible repeat (first | refine blk_drewN ?_ _ | refine blk_drew ?_ | refine blk_alloc ?_ _)); exact BK593.out)⟩; have n2_ : Aside0 (wr.heap[gb610]? = some (.cells #[.int .i64 (wrap64 (rd t597 0)), .int .u64 (rd t597 1), .int .u64 (rd t597 2), .int .u64 (rd t597 3), .int .u64 (rd t597 4), .int .u64 (rd t597 5), .int .u64 (rd t597 6), .bool (t611 == 1), u611008, .string (⟨#[]⟩ : ByteArray)] 57 (0, 0))) := ⟨by rw [← hq_]; exact (by (with_reducible repeat (first | refine blk_drewN ?_ _ | refine blk_drew ?_ | refine blk_alloc ?_ _)); exact BK610.out)⟩; have n3_ : Aside0 (Below w.heap.size w wr) := ⟨by rw [← hq_]; exact (by repeat (first | (with_reducible first | exact HB.out | apply below_alloc | apply pw_below_drewN | apply below_drew1 | refine below_set ?_ GE593.out | refine below_set ?_ GE610.out) | exact HB.out))⟩; clear HO_611008 BK593 BK610 HB hq_; have HO_611008 := n0_; have BK593 := n1_; have BK610 := n2_; have HB := n3_; clear n0_ n1_ n2_ n3_)); have hnb66 := NB593_610.out; have hnc66 := NB610_593.out; have hcz67_0 : wr.cell? ⟨gb593, 0, none⟩ = some (.int .i64 x594000_5) := (blk_cell BK593.out 0).trans rfl; have hcz67_1 : wr.cell? ⟨gb593, 1, none⟩ = some (.int .u64 x594001_5) := (blk_cell BK593.out 1).trans rfl; have hcz67_2 : wr.cell? ⟨gb593, 2, none⟩ = some (.int .u64 x594002_5) := (blk_cell BK593.out 2).trans rfl; have hcz67_3 : wr.cell? ⟨gb593, 3, none⟩ = some (.int .u64 x594003_5) := (blk_cell BK593.out 3).trans rfl; have hcz67_4 : wr.cell? ⟨gb593, 4, none⟩ = some (.int .u64 x594004_5) := (blk_cell BK593.out 4).trans rfl; have hcz67_5 : wr.cell? ⟨gb593, 5, none⟩ = some (.int .u64 x594005_5) := (blk_cell BK593.out 5).trans rfl; have hcz67_6 : wr.cell? ⟨gb593, 6, none⟩ = some (.int .u64 x594006_5) := (blk_cell BK593.out 6).trans rfl; have hcz67_7 : wr.cell? ⟨gb593, 7, none⟩ = some (.bool x594007_5) := (blk_cell BK593.out 7).trans rfl; have hcz67_8 : wr.cell? ⟨gb593, 8, none⟩ = some (.slice none 0 0) := (blk_cell BK593.out 8).trans rfl; have hcz67_9 : wr.cell? ⟨gb593, 9, none⟩ = some (.string x594009_5) := (blk_cell BK593.out 9).trans rfl; have hfz67_0 := blk_frozen BK593.out 0; have hfz67_1 := blk_frozen BK593.out 1; have hfz67_2 := blk_frozen BK593.out 2; have hfz67_3 := blk_frozen BK593.out 3; have hfz67_4 := blk_frozen BK593.out 4; have hfz67_5 := blk_frozen BK593.out 5; have hfz67_6 := blk_frozen BK593.out 6; have hfz67_7 := blk_frozen BK593.out 7; have hfz67_8 := blk_frozen BK593.out 8; have hfz67_9 := blk_frozen BK593.out 9))
                                                refine bodyPost_ret (results_ct rfl _ _ gb593 57 #[.int .i64 0, .int .u64 0, .int .u64 0, .int .u64 0, .int .u64 0, .int .u64 0, .int .u64 0, .bool false, .slice none 0 0, .string (⟨#[]⟩ : ByteArray)] (0, 0) _ rfl (by (with_reducible repeat (first | refine blk_drewN ?_ _ | refine blk_drew ?_ | refine blk_alloc ?_ _)); refine blk_put (cs := #[.int .i64 0, .int .u64 0, .int .u64 0, .int .u64 0, .int .u64 0, .int .u64 0, .int .u64 0, .bool false, .slice none 0 0, .string x594009_5]) ?_ 9 _ rfl; (with_reducible repeat (first | refine blk_drewN ?_ _ | refine blk_drew ?_ | refine blk_alloc ?_ _)); refine blk_put (cs := #[.int .i64 0, .int .u64 0, .int .u64 0, .int .u64 0, .int .u64 0, .int .u64 0, .int .u64 0, .bool false, .slice none 0 0, .string x594009_5]) ?_ 8 _ rfl; (with_reducible repeat (first | refine blk_drewN ?_ _ | refine blk_drew ?_ | refine blk_alloc ?_ _)); refine blk_put (cs := #[.int .i64 0, .int .u64 0, .int .u64 0, .int .u64 0, .int .u64 0, .int .u64 0, .int .u64 0, .bool x594007_5, .slice none 0 0, .string x594009_5]) ?_ 7 _ rfl; (with_reducible repeat (first | refine blk_drewN ?_ _ | refine blk_drew ?_ | refine blk_alloc ?_ _)); refine blk_put (cs := #[.int .i64 0, .int .u64 0, .int .u64 0, .int .u64 0, .int .u64 0, .int .u64 0, .int .u64 x594006_5, .bool x594007_5, .slice none 0 0, .string x594009_5]) ?_ 6 _ rfl; (with_reducible repeat (first | refine blk_drewN ?_ _ | refine blk_drew ?_ | refine blk_alloc ?_ _)); refine blk_put (cs := #[.int .i64 0, .int .u64 0, .int .u64 0, .int .u64 0, .int .u64 0, .int .u64 x594005_5, .int .u64 x594006_5, .bool x594007_5, .slice none 0 0, .string x594009_5]) ?_ 5 _ rfl; (with_reducible repeat (first | refine blk_drewN ?_ _ | refine blk_drew ?_ | refine blk_alloc ?_ _)); refine blk_put (cs := #[.int .i64 0, .int .u64 0, .int .u64 0, .int .u64 0, .int .u64 x594004_5, .int .u64 x594005_5, .int .u64 x594006_5, .bool x594007_5, .slice none 0 0, .string x594009_5]) ?_ 4 _ rfl; (with_reducible repeat (first | refine blk_drewN ?_ _ | refine blk_drew ?_ | refine blk_alloc ?_ _)); refine blk_put (cs := #[.int .i64 0, .int .u64 0, .int .u64 0, .int .u64 x594003_5, .int .u64 x594004_5, .int .u64 x594005_5, .int .u64 x594006_5, .bool x594007_5, .slice none 0 0, .string x594009_5]) ?_ 3 _ rfl; (with_reducible repeat (first | refine blk_drewN ?_ _ | refine blk_drew ?_ | refine blk_alloc ?_ _)); refine blk_put (cs := #[.int .i64 0, .int .u64 0, .int .u64 x594002_5, .int .u64 x594003_5, .int .u64 x594004_5, .int .u64 x594005_5, .int .u64 x594006_5, .bool x594007_5, .slice none 0 0, .string x594009_5]) ?_ 2 _ rfl; (with_reducible repeat (first | refine blk_drewN ?_ _ | refine blk_drew ?_ | refine blk_alloc ?_ _)); refine blk_put (cs := #[.int .i64 0, .int .u64 x594001_5, .int .u64 x594002_5, .int .u64 x594003_5, .int .u64 x594004_5, .int .u64 x594005_5, .int .u64 x594006_5, .bool x594007_5, .slice none 0 0, .string x594009_5]) ?_ 1 _ rfl; (with_reducible repeat (first | refine blk_drewN ?_ _ | refine blk_drew ?_ | refine blk_alloc ?_ _)); refine blk_put (cs := #[.int .i64 x594000_5, .int .u64 x594001_5, .int .u64 x594002_5, .int .u64 x594003_5, .int .u64 x594004_5, .int .u64 x594005_5, .int .u64 x594006_5, .bool x594007_5, .slice none 0 0, .string x594009_5]) ?_ 0 _ rfl; (with_reducible repeat (first | refine blk_drewN ?_ _ | refine blk_drew ?_ | refine blk_alloc ?_ _)); exact BK593.out) Try.underlying57 rfl (by kernel_rfl)) rfl ?_
                                                exact ⟨_, by first | rfl | (simp [errW_none, errW_some] <;> rfl) | (simp [*, errW_none, errW_some] <;> rfl), by first | exact Kd.R_nil _ _ _ _ _ | exact Kd.N_nil _ _ _ _ _ | exact Kd.V_nil _ _ _ _ _ | exact Kd.Q_nil _ _ _ _ _ | exact Kd.S_nil _ _ _ _ _, by repeat (first | (with_reducible first | exact HB.out | apply below_alloc | apply pw_below_drewN | apply below_drew1 | refine below_set ?_ GE593.out | refine below_set ?_ GE610.out) | exact HB.out)⟩
                                            · rw [if_neg c53] at H
                                              have c53b0 : decide (x17_5 < t614) = false := decide_eq_false c53
                                              clear c53
                                              replace H := Option.bind_eq_some_iff.mp H
                                              obtain ⟨⟨t626, t627, t628⟩, A680, H⟩ := H
                                              replace H : ((ferruleref17_May.f k5 (wrap64 (rd t597 0)) (rd t597 1) (rd t597 2) (rd t597 3) (rd t597 4) (rd t597 5) (rd t597 6) (t611 == 1) x611008_5 t626).bind fun t629 => (if t628 = 0 then (if (t627.size : Int) > 0 then (some (0, 0, 0, 0, 0, 0, 0, false, ([] : List (S75)), (⟨#[]⟩ : ByteArray), 3)) else (if t629 = true then (some ((wrap64 (rd t597 0)), (rd t597 1), (rd t597 2), (rd t597 3), (rd t597 4), (rd t597 5), (rd t597 6), (t611 == 1), x611008_5, t626, 0)) else (some (0, 0, 0, 0, 0, 0, 0, false, ([] : List (S75)), (⟨#[]⟩ : ByteArray), 3)))) else (some (0, 0, 0, 0, 0, 0, 0, false, ([] : List (S75)), (⟨#[]⟩ : ByteArray), 3)))) = some (r1, r2, r3, r4, r5, r6, r7, r8, r9, r10, r11) := H
                                              have A68 := Aside0.mk A680
                                              clear A680
                                              replace H := Option.bind_eq_some_iff.mp H
                                              obtain ⟨t629, A690, H⟩ := H
                                              replace H : (if t628 = 0 then (if (t627.size : Int) > 0 then (some (0, 0, 0, 0, 0, 0, 0, false, ([] : List (S75)), (⟨#[]⟩ : ByteArray), 3)) else (if t629 = true then (some ((wrap64 (rd t597 0)), (rd t597 1), (rd t597 2), (rd t597 3), (rd t597 4), (rd t597 5), (rd t597 6), (t611 == 1), x611008_5, t626, 0)) else (some (0, 0, 0, 0, 0, 0, 0, false, ([] : List (S75)), (⟨#[]⟩ : ByteArray), 3)))) else (some (0, 0, 0, 0, 0, 0, 0, false, ([] : List (S75)), (⟨#[]⟩ : ByteArray), 3))) = some (r1, r2, r3, r4, r5, r6, r7, r8, r9, r10, r11) := H
                                              have A69 := Aside0.mk A690
                                              clear A690
                                              by_cases c70 : t628 = 0
                                              · rw [if_pos c70] at H
                                                have c70b0 : (t628 == 0) = true := beq_iff_eq.mpr c70
                                                have c70b1 : (t628 != 0) = false := bne_eq_false_iff_eq.mpr c70
                                                clear c70
                                                by_cases c71 : (t627.size : Int) > 0
                                                · rw [if_pos c71] at H
                                                  have c71b0 : decide (0 < (t627.size : Int)) = true := decide_eq_true c71
                                                  have c71b1 : decide (0 < t627.size) = true := decide_eq_true (by omega)
                                                  clear c71
                                                  simp only [Option.some.injEq, Prod.mk.injEq] at H
                                                  obtain ⟨rfl, rfl, rfl, rfl, rfl, rfl, rfl, rfl, rfl, rfl, rfl⟩ := H
                                                  go_wp2_with (first | ((with_reducible refine gate_callee (f := 76) rfl ?_); refine goesL_ (some 149) rfl rfl Try.func76 (by kernel_rfl) rfl #[.string x15_5] rfl (by (try simp only [List.map_toArray, List.map_cons, List.map_nil]); first | done | rfl | (simp only [List.length_drop, List.length_take]; rfl)) ?_; (with_reducible refine (ferruleref01_TakeText.calls k5 x15_5 t626 t627 t628 _ A68.out).mono ?_); rintro e w' ⟨rfl, ⟨nd, rfl⟩⟩; refine ⟨_, rfl, ?_⟩; (try (rw [drewN_self wr]; generalize hq_ : World.drewN wr _ = wr; have n0_ : Aside0 (Kd.R k75 75 wr w.heap.size (fun _ => True) u611008 x611008_5) := ⟨by rw [← hq_]; exact (by (with_reducible repeat (first | apply Kd.R_alloc | apply Kd.R_drewN | apply Kd.R_drew)); exact HO_611008.out)⟩; have n1_ : Aside0 (wr.heap[gb593]? = some (.cells #[.int .i64 x594000_5, .int .u64 x594001_5, .int .u64 x594002_5, .int .u64 x594003_5, .int .u64 x594004_5, .int .u64 x594005_5, .int .u64 x594006_5, .bool x594007_5, .slice none 0 0, .string x594009_5] 57 (0, 0))) := ⟨by rw [← hq_]; exact (by (with_reducible repeat (first | refine blk_drewN ?_ _ | refine blk_drew ?_ | refine blk_alloc ?_ _)); exact BK593.out)⟩; have n2_ : Aside0 (wr.heap[gb610]? = some (.cells #[.int .i64 (wrap64 (rd t597 0)), .int .u64 (rd t597 1), .int .u64 (rd t597 2), .int .u64 (rd t597 3), .int .u64 (rd t597 4), .int .u64 (rd t597 5), .int .u64 (rd t597 6), .bool (t611 == 1), u611008, .string (⟨#[]⟩ : ByteArray)] 57 (0, 0))) := ⟨by rw [← hq_]; exact (by (with_reducible repeat (first | refine blk_drewN ?_ _ | refine blk_drew ?_ | refine blk_alloc ?_ _)); exact BK610.out)⟩; have n3_ : Aside0 (Below w.heap.size w wr) := ⟨by rw [← hq_]; exact (by repeat (first | (with_reducible first | exact HB.out | apply below_alloc | apply pw_below_drewN | apply below_drew1 | refine below_set ?_ GE593.out | refine below_set ?_ GE610.out) | exact HB.out))⟩; clear HO_611008 BK593 BK610 HB hq_; have HO_611008 := n0_; have BK593 := n1_; have BK610 := n2_; have HB := n3_; clear n0_ n1_ n2_ n3_)); have hnb72 := NB610_593.out; have hnc72 := NB593_610.out; have hcz73_0 : wr.cell? ⟨gb610, 0, none⟩ = some (.int .i64 (wrap64 (rd t597 0))) := (blk_cell BK610.out 0).trans rfl; have hcz73_1 : wr.cell? ⟨gb610, 1, none⟩ = some (.int .u64 (rd t597 1)) := (blk_cell BK610.out 1).trans rfl; have hcz73_2 : wr.cell? ⟨gb610, 2, none⟩ = some (.int .u64 (rd t597 2)) := (blk_cell BK610.out 2).trans rfl; have hcz73_3 : wr.cell? ⟨gb610, 3, none⟩ = some (.int .u64 (rd t597 3)) := (blk_cell BK610.out 3).trans rfl; have hcz73_4 : wr.cell? ⟨gb610, 4, none⟩ = some (.int .u64 (rd t597 4)) := (blk_cell BK610.out 4).trans rfl; have hcz73_5 : wr.cell? ⟨gb610, 5, none⟩ = some (.int .u64 (rd t597 5)) := (blk_cell BK610.out 5).trans rfl; have hcz73_6 : wr.cell? ⟨gb610, 6, none⟩ = some (.int .u64 (rd t597 6)) := (blk_cell BK610.out 6).trans rfl; have hcz73_7 : wr.cell? ⟨gb610, 7, none⟩ = some (.bool (t611 == 1)) := (blk_cell BK610.out 7).trans rfl; have hcz73_8 : wr.cell? ⟨gb610, 8, none⟩ = some (u611008) := (blk_cell BK610.out 8).trans rfl; have hcz73_9 : wr.cell? ⟨gb610, 9, none⟩ = some (.string (⟨#[]⟩ : ByteArray)) := (blk_cell BK610.out 9).trans rfl; have hfz73_0 := blk_frozen BK610.out 0; have hfz73_1 := blk_frozen BK610.out 1; have hfz73_2 := blk_frozen BK610.out 2; have hfz73_3 := blk_frozen BK610.out 3; have hfz73_4 := blk_frozen BK610.out 4; have hfz73_5 := blk_frozen BK610.out 5; have hfz73_6 := blk_frozen BK610.out 6; have hfz73_7 := blk_frozen BK610.out 7; have hfz73_8 := blk_frozen BK610.out 8; have hfz73_9 := blk_frozen BK610.out 9; obtain ⟨Ao74, co74, eo74⟩ := Kd.R_slice HO_611008.out; subst eo74) | ((with_reducible refine gate_callee (f := 34) rfl ?_); refine goesL_ (some 156) rfl rfl Try.func34 (by kernel_rfl) rfl #[.agg #[.int .i64 (wrap64 (rd t597 0)), .int .u64 (rd t597 1), .int .u64 (rd t597 2), .int .u64 (rd t597 3), .int .u64 (rd t597 4), .int .u64 (rd t597 5), .int .u64 (rd t597 6), .bool (t611 == 1), .slice Ao74 x611008_5.length co74, .string t626]] rfl (by (try simp only [List.map_toArray, List.map_cons, List.map_nil]); first | done | rfl | (simp only [List.length_drop, List.length_take]; rfl)) ?_; (with_reducible refine (ferruleref17_May.calls k5 (wrap64 (rd t597 0)) (rd t597 1) (rd t597 2) (rd t597 3) (rd t597 4) (rd t597 5) (rd t597 6) (t611 == 1) _ _ x611008_5 t626 t629 _ ?side1 ?side2 A69.out).mono ?_); (case side1 => refine (Kd.R_reads' (e := 75) (base := w.heap.size) (ok := fun k_ => True) (n := x611008_5.length) (c := co74) ?_).2.2; exact (by (with_reducible repeat (first | apply Kd.R_alloc | apply Kd.R_drewN | apply Kd.R_drew)); exact (Kd.R_mono (Kd.R_far (p := ⟨gb610, 9, none⟩) (Kd.R_types HO_611008.out BK610.out (by decide)) (fun _ hk => hk.2) (.string t626)) (fun _ h_ => h_.1)))); (case side2 => exact (Kd.R_reads' HO_611008.out).2.1); rintro e w75 ⟨rfl, hb⟩; refine ⟨_, rfl, ?_⟩; have n0_ := Aside0.mk (Kd.R_below (by (with_reducible repeat (first | apply Kd.R_alloc | apply Kd.R_drewN | apply Kd.R_drew)); exact (Kd.R_mono (Kd.R_far (p := ⟨gb610, 9, none⟩) (Kd.R_types HO_611008.out BK610.out (by decide)) (fun _ hk => hk.2) (.string t626)) (fun _ h_ => h_.1))) hb); have n1_ := Aside0.mk (blk_below (g := gb593) (o := .cells #[.int .i64 x594000_5, .int .u64 x594001_5, .int .u64 x594002_5, .int .u64 x594003_5, .int .u64 x594004_5, .int .u64 x594005_5, .int .u64 x594006_5, .bool x594007_5, .slice none 0 0, .string x594009_5] 57 (0, 0)) (by (with_reducible repeat (first | refine blk_drewN ?_ _ | refine blk_drew ?_ | refine blk_alloc ?_ _)); refine blk_far ?_ NB593_610.out _; (with_reducible repeat (first | refine blk_drewN ?_ _ | refine blk_drew ?_ | refine blk_alloc ?_ _)); exact BK593.out) hb); have n2_ := Aside0.mk (blk_below (g := gb610) (o := .cells #[.int .i64 (wrap64 (rd t597 0)), .int .u64 (rd t597 1), .int .u64 (rd t597 2), .int .u64 (rd t597 3), .int .u64 (rd t597 4), .int .u64 (rd t597 5), .int .u64 (rd t597 6), .bool (t611 == 1), .slice Ao74 x611008_5.length co74, .string t626] 57 (0, 0)) (by (with_reducible repeat (first | refine blk_drewN ?_ _ | refine blk_drew ?_ | refine blk_alloc ?_ _)); refine blk_put (cs := #[.int .i64 (wrap64 (rd t597 0)), .int .u64 (rd t597 1), .int .u64 (rd t597 2), .int .u64 (rd t597 3), .int .u64 (rd t597 4), .int .u64 (rd t597 5), .int .u64 (rd t597 6), .bool (t611 == 1), .slice Ao74 x611008_5.length co74, .string (⟨#[]⟩ : ByteArray)]) ?_ 9 _ rfl; (with_reducible repeat (first | refine blk_drewN ?_ _ | refine blk_drew ?_ | refine blk_alloc ?_ _)); exact BK610.out) hb); have n3_ := Aside0.mk (below_step (by repeat (first | (with_reducible first | exact HB.out | apply below_alloc | apply pw_below_drewN | apply below_drew1 | refine below_set ?_ GE593.out | refine below_set ?_ GE610.out) | exact HB.out | exact Below.refl _ _)) hb); clear HO_611008; clear BK593; clear BK610; clear HB; have HO_611008 := n0_; have BK593 := n1_; have BK610 := n2_; have HB := n3_; clear n0_ n1_ n2_ n3_; (try clear hb); (try clear hb2); (try clear hk); (try clear hi); have hcz76_0 : w75.cell? ⟨gb593, 0, none⟩ = some (.int .i64 x594000_5) := (blk_cell BK593.out 0).trans rfl; have hcz76_1 : w75.cell? ⟨gb593, 1, none⟩ = some (.int .u64 x594001_5) := (blk_cell BK593.out 1).trans rfl; have hcz76_2 : w75.cell? ⟨gb593, 2, none⟩ = some (.int .u64 x594002_5) := (blk_cell BK593.out 2).trans rfl; have hcz76_3 : w75.cell? ⟨gb593, 3, none⟩ = some (.int .u64 x594003_5) := (blk_cell BK593.out 3).trans rfl; have hcz76_4 : w75.cell? ⟨gb593, 4, none⟩ = some (.int .u64 x594004_5) := (blk_cell BK593.out 4).trans rfl; have hcz76_5 : w75.cell? ⟨gb593, 5, none⟩ = some (.int .u64 x594005_5) := (blk_cell BK593.out 5).trans rfl; have hcz76_6 : w75.cell? ⟨gb593, 6, none⟩ = some (.int .u64 x594006_5) := (blk_cell BK593.out 6).trans rfl; have hcz76_7 : w75.cell? ⟨gb593, 7, none⟩ = some (.bool x594007_5) := (blk_cell BK593.out 7).trans rfl; have hcz76_8 : w75.cell? ⟨gb593, 8, none⟩ = some (.slice none 0 0) := (blk_cell BK593.out 8).trans rfl; have hcz76_9 : w75.cell? ⟨gb593, 9, none⟩ = some (.string x594009_5) := (blk_cell BK593.out 9).trans rfl; have hfz76_0 := blk_frozen BK593.out 0; have hfz76_1 := blk_frozen BK593.out 1; have hfz76_2 := blk_frozen BK593.out 2; have hfz76_3 := blk_frozen BK593.out 3; have hfz76_4 := blk_frozen BK593.out 4; have hfz76_5 := blk_frozen BK593.out 5; have hfz76_6 := blk_frozen BK593.out 6; have hfz76_7 := blk_frozen BK593.out 7; have hfz76_8 := blk_frozen BK593.out 8; have hfz76_9 := blk_frozen BK593.out 9))
                                                  refine bodyPost_ret (results_ct rfl _ _ gb593 57 #[.int .i64 0, .int .u64 0, .int .u64 0, .int .u64 0, .int .u64 0, .int .u64 0, .int .u64 0, .bool false, .slice none 0 0, .string (⟨#[]⟩ : ByteArray)] (0, 0) _ rfl (by (with_reducible repeat (first | refine blk_drewN ?_ _ | refine blk_drew ?_ | refine blk_alloc ?_ _)); refine blk_put (cs := #[.int .i64 0, .int .u64 0, .int .u64 0, .int .u64 0, .int .u64 0, .int .u64 0, .int .u64 0, .bool false, .slice none 0 0, .string x594009_5]) ?_ 9 _ rfl; (with_reducible repeat (first | refine blk_drewN ?_ _ | refine blk_drew ?_ | refine blk_alloc ?_ _)); refine blk_put (cs := #[.int .i64 0, .int .u64 0, .int .u64 0, .int .u64 0, .int .u64 0, .int .u64 0, .int .u64 0, .bool false, .slice none 0 0, .string x594009_5]) ?_ 8 _ rfl; (with_reducible repeat (first | refine blk_drewN ?_ _ | refine blk_drew ?_ | refine blk_alloc ?_ _)); refine blk_put (cs := #[.int .i64 0, .int .u64 0, .int .u64 0, .int .u64 0, .int .u64 0, .int .u64 0, .int .u64 0, .bool x594007_5, .slice none 0 0, .string x594009_5]) ?_ 7 _ rfl; (with_reducible repeat (first | refine blk_drewN ?_ _ | refine blk_drew ?_ | refine blk_alloc ?_ _)); refine blk_put (cs := #[.int .i64 0, .int .u64 0, .int .u64 0, .int .u64 0, .int .u64 0, .int .u64 0, .int .u64 x594006_5, .bool x594007_5, .slice none 0 0, .string x594009_5]) ?_ 6 _ rfl; (with_reducible repeat (first | refine blk_drewN ?_ _ | refine blk_drew ?_ | refine blk_alloc ?_ _)); refine blk_put (cs := #[.int .i64 0, .int .u64 0, .int .u64 0, .int .u64 0, .int .u64 0, .int .u64 x594005_5, .int .u64 x594006_5, .bool x594007_5, .slice none 0 0, .string x594009_5]) ?_ 5 _ rfl; (with_reducible repeat (first | refine blk_drewN ?_ _ | refine blk_drew ?_ | refine blk_alloc ?_ _)); refine blk_put (cs := #[.int .i64 0, .int .u64 0, .int .u64 0, .int .u64 0, .int .u64 x594004_5, .int .u64 x594005_5, .int .u64 x594006_5, .bool x594007_5, .slice none 0 0, .string x594009_5]) ?_ 4 _ rfl; (with_reducible repeat (first | refine blk_drewN ?_ _ | refine blk_drew ?_ | refine blk_alloc ?_ _)); refine blk_put (cs := #[.int .i64 0, .int .u64 0, .int .u64 0, .int .u64 x594003_5, .int .u64 x594004_5, .int .u64 x594005_5, .int .u64 x594006_5, .bool x594007_5, .slice none 0 0, .string x594009_5]) ?_ 3 _ rfl; (with_reducible repeat (first | refine blk_drewN ?_ _ | refine blk_drew ?_ | refine blk_alloc ?_ _)); refine blk_put (cs := #[.int .i64 0, .int .u64 0, .int .u64 x594002_5, .int .u64 x594003_5, .int .u64 x594004_5, .int .u64 x594005_5, .int .u64 x594006_5, .bool x594007_5, .slice none 0 0, .string x594009_5]) ?_ 2 _ rfl; (with_reducible repeat (first | refine blk_drewN ?_ _ | refine blk_drew ?_ | refine blk_alloc ?_ _)); refine blk_put (cs := #[.int .i64 0, .int .u64 x594001_5, .int .u64 x594002_5, .int .u64 x594003_5, .int .u64 x594004_5, .int .u64 x594005_5, .int .u64 x594006_5, .bool x594007_5, .slice none 0 0, .string x594009_5]) ?_ 1 _ rfl; (with_reducible repeat (first | refine blk_drewN ?_ _ | refine blk_drew ?_ | refine blk_alloc ?_ _)); refine blk_put (cs := #[.int .i64 x594000_5, .int .u64 x594001_5, .int .u64 x594002_5, .int .u64 x594003_5, .int .u64 x594004_5, .int .u64 x594005_5, .int .u64 x594006_5, .bool x594007_5, .slice none 0 0, .string x594009_5]) ?_ 0 _ rfl; (with_reducible repeat (first | refine blk_drewN ?_ _ | refine blk_drew ?_ | refine blk_alloc ?_ _)); exact BK593.out) Try.underlying57 rfl (by kernel_rfl)) rfl ?_
                                                  exact ⟨_, by first | rfl | (simp [errW_none, errW_some] <;> rfl) | (simp [*, errW_none, errW_some] <;> rfl), by first | exact Kd.R_nil _ _ _ _ _ | exact Kd.N_nil _ _ _ _ _ | exact Kd.V_nil _ _ _ _ _ | exact Kd.Q_nil _ _ _ _ _ | exact Kd.S_nil _ _ _ _ _, by repeat (first | (with_reducible first | exact HB.out | apply below_alloc | apply pw_below_drewN | apply below_drew1 | refine below_set ?_ GE593.out | refine below_set ?_ GE610.out) | exact HB.out)⟩
                                                · rw [if_neg c71] at H
                                                  have c71b0 : decide (0 < (t627.size : Int)) = false := decide_eq_false c71
                                                  have c71b1 : decide (0 < t627.size) = false := decide_eq_false (by omega)
                                                  clear c71
                                                  by_cases c77 : t629 = true
                                                  · subst c77
                                                    have H1 : (some ((wrap64 (rd t597 0)), (rd t597 1), (rd t597 2), (rd t597 3), (rd t597 4), (rd t597 5), (rd t597 6), (t611 == 1), x611008_5, t626, 0)) = some (r1, r2, r3, r4, r5, r6, r7, r8, r9, r10, r11) := by rw [if_pos rfl] at H; exact H
                                                    clear H
                                                    have H := H1
                                                    clear H1
                                                    simp only [Option.some.injEq, Prod.mk.injEq] at H
                                                    obtain ⟨rfl, rfl, rfl, rfl, rfl, rfl, rfl, rfl, rfl, rfl, rfl⟩ := H
                                                    go_wp2_with (first | ((with_reducible refine gate_callee (f := 76) rfl ?_); refine goesL_ (some 149) rfl rfl Try.func76 (by kernel_rfl) rfl #[.string x15_5] rfl (by (try simp only [List.map_toArray, List.map_cons, List.map_nil]); first | done | rfl | (simp only [List.length_drop, List.length_take]; rfl)) ?_; (with_reducible refine (ferruleref01_TakeText.calls k5 x15_5 t626 t627 t628 _ A68.out).mono ?_); rintro e w' ⟨rfl, ⟨nd, rfl⟩⟩; refine ⟨_, rfl, ?_⟩; (try (rw [drewN_self wr]; generalize hq_ : World.drewN wr _ = wr; have n0_ : Aside0 (Kd.R k75 75 wr w.heap.size (fun _ => True) u611008 x611008_5) := ⟨by rw [← hq_]; exact (by (with_reducible repeat (first | apply Kd.R_alloc | apply Kd.R_drewN | apply Kd.R_drew)); exact HO_611008.out)⟩; have n1_ : Aside0 (wr.heap[gb593]? = some (.cells #[.int .i64 x594000_5, .int .u64 x594001_5, .int .u64 x594002_5, .int .u64 x594003_5, .int .u64 x594004_5, .int .u64 x594005_5, .int .u64 x594006_5, .bool x594007_5, .slice none 0 0, .string x594009_5] 57 (0, 0))) := ⟨by rw [← hq_]; exact (by (with_reducible repeat (first | refine blk_drewN ?_ _ | refine blk_drew ?_ | refine blk_alloc ?_ _)); exact BK593.out)⟩; have n2_ : Aside0 (wr.heap[gb610]? = some (.cells #[.int .i64 (wrap64 (rd t597 0)), .int .u64 (rd t597 1), .int .u64 (rd t597 2), .int .u64 (rd t597 3), .int .u64 (rd t597 4), .int .u64 (rd t597 5), .int .u64 (rd t597 6), .bool (t611 == 1), u611008, .string (⟨#[]⟩ : ByteArray)] 57 (0, 0))) := ⟨by rw [← hq_]; exact (by (with_reducible repeat (first | refine blk_drewN ?_ _ | refine blk_drew ?_ | refine blk_alloc ?_ _)); exact BK610.out)⟩; have n3_ : Aside0 (Below w.heap.size w wr) := ⟨by rw [← hq_]; exact (by repeat (first | (with_reducible first | exact HB.out | apply below_alloc | apply pw_below_drewN | apply below_drew1 | refine below_set ?_ GE593.out | refine below_set ?_ GE610.out) | exact HB.out))⟩; clear HO_611008 BK593 BK610 HB hq_; have HO_611008 := n0_; have BK593 := n1_; have BK610 := n2_; have HB := n3_; clear n0_ n1_ n2_ n3_)); have hnb78 := NB610_593.out; have hnc78 := NB593_610.out; have hcz79_0 : wr.cell? ⟨gb610, 0, none⟩ = some (.int .i64 (wrap64 (rd t597 0))) := (blk_cell BK610.out 0).trans rfl; have hcz79_1 : wr.cell? ⟨gb610, 1, none⟩ = some (.int .u64 (rd t597 1)) := (blk_cell BK610.out 1).trans rfl; have hcz79_2 : wr.cell? ⟨gb610, 2, none⟩ = some (.int .u64 (rd t597 2)) := (blk_cell BK610.out 2).trans rfl; have hcz79_3 : wr.cell? ⟨gb610, 3, none⟩ = some (.int .u64 (rd t597 3)) := (blk_cell BK610.out 3).trans rfl; have hcz79_4 : wr.cell? ⟨gb610, 4, none⟩ = some (.int .u64 (rd t597 4)) := (blk_cell BK610.out 4).trans rfl; have hcz79_5 : wr.cell? ⟨gb610, 5, none⟩ = some (.int .u64 (rd t597 5)) := (blk_cell BK610.out 5).trans rfl; have hcz79_6 : wr.cell? ⟨gb610, 6, none⟩ = some (.int .u64 (rd t597 6)) := (blk_cell BK610.out 6).trans rfl; have hcz79_7 : wr.cell? ⟨gb610, 7, none⟩ = some (.bool (t611 == 1)) := (blk_cell BK610.out 7).trans rfl; have hcz79_8 : wr.cell? ⟨gb610, 8, none⟩ = some (u611008) := (blk_cell BK610.out 8).trans rfl; have hcz79_9 : wr.cell? ⟨gb610, 9, none⟩ = some (.string (⟨#[]⟩ : ByteArray)) := (blk_cell BK610.out 9).trans rfl; have hfz79_0 := blk_frozen BK610.out 0; have hfz79_1 := blk_frozen BK610.out 1; have hfz79_2 := blk_frozen BK610.out 2; have hfz79_3 := blk_frozen BK610.out 3; have hfz79_4 := blk_frozen BK610.out 4; have hfz79_5 := blk_frozen BK610.out 5; have hfz79_6 := blk_frozen BK610.out 6; have hfz79_7 := blk_frozen BK610.out 7; have hfz79_8 := blk_frozen BK610.out 8; have hfz79_9 := blk_frozen BK610.out 9; obtain ⟨Ao80, co80, eo80⟩ := Kd.R_slice HO_611008.out; subst eo80) | ((with_reducible refine gate_callee (f := 34) rfl ?_); refine goesL_ (some 156) rfl rfl Try.func34 (by kernel_rfl) rfl #[.agg #[.int .i64 (wrap64 (rd t597 0)), .int .u64 (rd t597 1), .int .u64 (rd t597 2), .int .u64 (rd t597 3), .int .u64 (rd t597 4), .int .u64 (rd t597 5), .int .u64 (rd t597 6), .bool (t611 == 1), .slice Ao80 x611008_5.length co80, .string t626]] rfl (by (try simp only [List.map_toArray, List.map_cons, List.map_nil]); first | done | rfl | (simp only [List.length_drop, List.length_take]; rfl)) ?_; (with_reducible refine (ferruleref17_May.calls k5 (wrap64 (rd t597 0)) (rd t597 1) (rd t597 2) (rd t597 3) (rd t597 4) (rd t597 5) (rd t597 6) (t611 == 1) _ _ x611008_5 t626 true _ ?side1 ?side2 A69.out).mono ?_); (case side1 => refine (Kd.R_reads' (e := 75) (base := w.heap.size) (ok := fun k_ => True) (n := x611008_5.length) (c := co80) ?_).2.2; exact (by (with_reducible repeat (first | apply Kd.R_alloc | apply Kd.R_drewN | apply Kd.R_drew)); exact (Kd.R_mono (Kd.R_far (p := ⟨gb610, 9, none⟩) (Kd.R_types HO_611008.out BK610.out (by decide)) (fun _ hk => hk.2) (.string t626)) (fun _ h_ => h_.1)))); (case side2 => exact (Kd.R_reads' HO_611008.out).2.1); rintro e w81 ⟨rfl, hb⟩; refine ⟨_, rfl, ?_⟩; have n0_ := Aside0.mk (Kd.R_below (by (with_reducible repeat (first | apply Kd.R_alloc | apply Kd.R_drewN | apply Kd.R_drew)); exact (Kd.R_mono (Kd.R_far (p := ⟨gb610, 9, none⟩) (Kd.R_types HO_611008.out BK610.out (by decide)) (fun _ hk => hk.2) (.string t626)) (fun _ h_ => h_.1))) hb); have n1_ := Aside0.mk (blk_below (g := gb593) (o := .cells #[.int .i64 x594000_5, .int .u64 x594001_5, .int .u64 x594002_5, .int .u64 x594003_5, .int .u64 x594004_5, .int .u64 x594005_5, .int .u64 x594006_5, .bool x594007_5, .slice none 0 0, .string x594009_5] 57 (0, 0)) (by (with_reducible repeat (first | refine blk_drewN ?_ _ | refine blk_drew ?_ | refine blk_alloc ?_ _)); refine blk_far ?_ NB593_610.out _; (with_reducible repeat (first | refine blk_drewN ?_ _ | refine blk_drew ?_ | refine blk_alloc ?_ _)); exact BK593.out) hb); have n2_ := Aside0.mk (blk_below (g := gb610) (o := .cells #[.int .i64 (wrap64 (rd t597 0)), .int .u64 (rd t597 1), .int .u64 (rd t597 2), .int .u64 (rd t597 3), .int .u64 (rd t597 4), .int .u64 (rd t597 5), .int .u64 (rd t597 6), .bool (t611 == 1), .slice Ao80 x611008_5.length co80, .string t626] 57 (0, 0)) (by (with_reducible repeat (first | refine blk_drewN ?_ _ | refine blk_drew ?_ | refine blk_alloc ?_ _)); refine blk_put (cs := #[.int .i64 (wrap64 (rd t597 0)), .int .u64 (rd t597 1), .int .u64 (rd t597 2), .int .u64 (rd t597 3), .int .u64 (rd t597 4), .int .u64 (rd t597 5), .int .u64 (rd t597 6), .bool (t611 == 1), .slice Ao80 x611008_5.length co80, .string (⟨#[]⟩ : ByteArray)]) ?_ 9 _ rfl; (with_reducible repeat (first | refine blk_drewN ?_ _ | refine blk_drew ?_ | refine blk_alloc ?_ _)); exact BK610.out) hb); have n3_ := Aside0.mk (below_step (by repeat (first | (with_reducible first | exact HB.out | apply below_alloc | apply pw_below_drewN | apply below_drew1 | refine below_set ?_ GE593.out | refine below_set ?_ GE610.out) | exact HB.out | exact Below.refl _ _)) hb); clear HO_611008; clear BK593; clear BK610; clear HB; have HO_611008 := n0_; have BK593 := n1_; have BK610 := n2_; have HB := n3_; clear n0_ n1_ n2_ n3_; (try clear hb); (try clear hb2); (try clear hk); (try clear hi); have hcz82_0 : w81.cell? ⟨gb610, 0, none⟩ = some (.int .i64 (wrap64 (rd t597 0))) := (blk_cell BK610.out 0).trans rfl; have hcz82_1 : w81.cell? ⟨gb610, 1, none⟩ = some (.int .u64 (rd t597 1)) := (blk_cell BK610.out 1).trans rfl; have hcz82_2 : w81.cell? ⟨gb610, 2, none⟩ = some (.int .u64 (rd t597 2)) := (blk_cell BK610.out 2).trans rfl; have hcz82_3 : w81.cell? ⟨gb610, 3, none⟩ = some (.int .u64 (rd t597 3)) := (blk_cell BK610.out 3).trans rfl; have hcz82_4 : w81.cell? ⟨gb610, 4, none⟩ = some (.int .u64 (rd t597 4)) := (blk_cell BK610.out 4).trans rfl; have hcz82_5 : w81.cell? ⟨gb610, 5, none⟩ = some (.int .u64 (rd t597 5)) := (blk_cell BK610.out 5).trans rfl; have hcz82_6 : w81.cell? ⟨gb610, 6, none⟩ = some (.int .u64 (rd t597 6)) := (blk_cell BK610.out 6).trans rfl; have hcz82_7 : w81.cell? ⟨gb610, 7, none⟩ = some (.bool (t611 == 1)) := (blk_cell BK610.out 7).trans rfl; have hcz82_8 : w81.cell? ⟨gb610, 8, none⟩ = some (.slice Ao80 x611008_5.length co80) := (blk_cell BK610.out 8).trans rfl; have hcz82_9 : w81.cell? ⟨gb610, 9, none⟩ = some (.string t626) := (blk_cell BK610.out 9).trans rfl; have hfz82_0 := blk_frozen BK610.out 0; have hfz82_1 := blk_frozen BK610.out 1; have hfz82_2 := blk_frozen BK610.out 2; have hfz82_3 := blk_frozen BK610.out 3; have hfz82_4 := blk_frozen BK610.out 4; have hfz82_5 := blk_frozen BK610.out 5; have hfz82_6 := blk_frozen BK610.out 6; have hfz82_7 := blk_frozen BK610.out 7; have hfz82_8 := blk_frozen BK610.out 8; have hfz82_9 := blk_frozen BK610.out 9; have hcz83_0 : w81.cell? ⟨gb593, 0, none⟩ = some (.int .i64 x594000_5) := (blk_cell BK593.out 0).trans rfl; have hcz83_1 : w81.cell? ⟨gb593, 1, none⟩ = some (.int .u64 x594001_5) := (blk_cell BK593.out 1).trans rfl; have hcz83_2 : w81.cell? ⟨gb593, 2, none⟩ = some (.int .u64 x594002_5) := (blk_cell BK593.out 2).trans rfl; have hcz83_3 : w81.cell? ⟨gb593, 3, none⟩ = some (.int .u64 x594003_5) := (blk_cell BK593.out 3).trans rfl; have hcz83_4 : w81.cell? ⟨gb593, 4, none⟩ = some (.int .u64 x594004_5) := (blk_cell BK593.out 4).trans rfl; have hcz83_5 : w81.cell? ⟨gb593, 5, none⟩ = some (.int .u64 x594005_5) := (blk_cell BK593.out 5).trans rfl; have hcz83_6 : w81.cell? ⟨gb593, 6, none⟩ = some (.int .u64 x594006_5) := (blk_cell BK593.out 6).trans rfl; have hcz83_7 : w81.cell? ⟨gb593, 7, none⟩ = some (.bool x594007_5) := (blk_cell BK593.out 7).trans rfl; have hcz83_8 : w81.cell? ⟨gb593, 8, none⟩ = some (.slice none 0 0) := (blk_cell BK593.out 8).trans rfl; have hcz83_9 : w81.cell? ⟨gb593, 9, none⟩ = some (.string x594009_5) := (blk_cell BK593.out 9).trans rfl; have hfz83_0 := blk_frozen BK593.out 0; have hfz83_1 := blk_frozen BK593.out 1; have hfz83_2 := blk_frozen BK593.out 2; have hfz83_3 := blk_frozen BK593.out 3; have hfz83_4 := blk_frozen BK593.out 4; have hfz83_5 := blk_frozen BK593.out 5; have hfz83_6 := blk_frozen BK593.out 6; have hfz83_7 := blk_frozen BK593.out 7; have hfz83_8 := blk_frozen BK593.out 8; have hfz83_9 := blk_frozen BK593.out 9))
                                                    refine bodyPost_ret (results_ct rfl _ _ gb593 57 #[.int .i64 (wrap64 (rd t597 0)), .int .u64 (rd t597 1), .int .u64 (rd t597 2), .int .u64 (rd t597 3), .int .u64 (rd t597 4), .int .u64 (rd t597 5), .int .u64 (rd t597 6), .bool (t611 == 1), .slice Ao80 x611008_5.length co80, .string t626] (0, 0) _ rfl (by (with_reducible repeat (first | refine blk_drewN ?_ _ | refine blk_drew ?_ | refine blk_alloc ?_ _)); refine blk_put (cs := #[.int .i64 (wrap64 (rd t597 0)), .int .u64 (rd t597 1), .int .u64 (rd t597 2), .int .u64 (rd t597 3), .int .u64 (rd t597 4), .int .u64 (rd t597 5), .int .u64 (rd t597 6), .bool (t611 == 1), .slice Ao80 x611008_5.length co80, .string x594009_5]) ?_ 9 _ rfl; (with_reducible repeat (first | refine blk_drewN ?_ _ | refine blk_drew ?_ | refine blk_alloc ?_ _)); refine blk_put (cs := #[.int .i64 (wrap64 (rd t597 0)), .int .u64 (rd t597 1), .int .u64 (rd t597 2), .int .u64 (rd t597 3), .int .u64 (rd t597 4), .int .u64 (rd t597 5), .int .u64 (rd t597 6), .bool (t611 == 1), .slice none 0 0, .string x594009_5]) ?_ 8 _ rfl; (with_reducible repeat (first | refine blk_drewN ?_ _ | refine blk_drew ?_ | refine blk_alloc ?_ _)); refine blk_put (cs := #[.int .i64 (wrap64 (rd t597 0)), .int .u64 (rd t597 1), .int .u64 (rd t597 2), .int .u64 (rd t597 3), .int .u64 (rd t597 4), .int .u64 (rd t597 5), .int .u64 (rd t597 6), .bool x594007_5, .slice none 0 0, .string x594009_5]) ?_ 7 _ rfl; (with_reducible repeat (first | refine blk_drewN ?_ _ | refine blk_drew ?_ | refine blk_alloc ?_ _)); refine blk_put (cs := #[.int .i64 (wrap64 (rd t597 0)), .int .u64 (rd t597 1), .int .u64 (rd t597 2), .int .u64 (rd t597 3), .int .u64 (rd t597 4), .int .u64 (rd t597 5), .int .u64 x594006_5, .bool x594007_5, .slice none 0 0, .string x594009_5]) ?_ 6 _ rfl; (with_reducible repeat (first | refine blk_drewN ?_ _ | refine blk_drew ?_ | refine blk_alloc ?_ _)); refine blk_put (cs := #[.int .i64 (wrap64 (rd t597 0)), .int .u64 (rd t597 1), .int .u64 (rd t597 2), .int .u64 (rd t597 3), .int .u64 (rd t597 4), .int .u64 x594005_5, .int .u64 x594006_5, .bool x594007_5, .slice none 0 0, .string x594009_5]) ?_ 5 _ rfl; (with_reducible repeat (first | refine blk_drewN ?_ _ | refine blk_drew ?_ | refine blk_alloc ?_ _)); refine blk_put (cs := #[.int .i64 (wrap64 (rd t597 0)), .int .u64 (rd t597 1), .int .u64 (rd t597 2), .int .u64 (rd t597 3), .int .u64 x594004_5, .int .u64 x594005_5, .int .u64 x594006_5, .bool x594007_5, .slice none 0 0, .string x594009_5]) ?_ 4 _ rfl; (with_reducible repeat (first | refine blk_drewN ?_ _ | refine blk_drew ?_ | refine blk_alloc ?_ _)); refine blk_put (cs := #[.int .i64 (wrap64 (rd t597 0)), .int .u64 (rd t597 1), .int .u64 (rd t597 2), .int .u64 x594003_5, .int .u64 x594004_5, .int .u64 x594005_5, .int .u64 x594006_5, .bool x594007_5, .slice none 0 0, .string x594009_5]) ?_ 3 _ rfl; (with_reducible repeat (first | refine blk_drewN ?_ _ | refine blk_drew ?_ | refine blk_alloc ?_ _)); refine blk_put (cs := #[.int .i64 (wrap64 (rd t597 0)), .int .u64 (rd t597 1), .int .u64 x594002_5, .int .u64 x594003_5, .int .u64 x594004_5, .int .u64 x594005_5, .int .u64 x594006_5, .bool x594007_5, .slice none 0 0, .string x594009_5]) ?_ 2 _ rfl; (with_reducible repeat (first | refine blk_drewN ?_ _ | refine blk_drew ?_ | refine blk_alloc ?_ _)); refine blk_put (cs := #[.int .i64 (wrap64 (rd t597 0)), .int .u64 x594001_5, .int .u64 x594002_5, .int .u64 x594003_5, .int .u64 x594004_5, .int .u64 x594005_5, .int .u64 x594006_5, .bool x594007_5, .slice none 0 0, .string x594009_5]) ?_ 1 _ rfl; (with_reducible repeat (first | refine blk_drewN ?_ _ | refine blk_drew ?_ | refine blk_alloc ?_ _)); refine blk_put (cs := #[.int .i64 x594000_5, .int .u64 x594001_5, .int .u64 x594002_5, .int .u64 x594003_5, .int .u64 x594004_5, .int .u64 x594005_5, .int .u64 x594006_5, .bool x594007_5, .slice none 0 0, .string x594009_5]) ?_ 0 _ rfl; (with_reducible repeat (first | refine blk_drewN ?_ _ | refine blk_drew ?_ | refine blk_alloc ?_ _)); exact BK593.out) Try.underlying57 rfl (by kernel_rfl)) rfl ?_
                                                    exact ⟨_, by first | rfl | (simp [errW_none, errW_some] <;> rfl) | (simp [*, errW_none, errW_some] <;> rfl), by (with_reducible repeat (first | apply Kd.R_alloc | apply Kd.R_drewN | apply Kd.R_drew)); exact Kd.R_mono (Kd.R_far (p := ⟨gb593, 9, none⟩) (Kd.R_far (p := ⟨gb593, 8, none⟩) (Kd.R_far (p := ⟨gb593, 7, none⟩) (Kd.R_far (p := ⟨gb593, 6, none⟩) (Kd.R_far (p := ⟨gb593, 5, none⟩) (Kd.R_far (p := ⟨gb593, 4, none⟩) (Kd.R_far (p := ⟨gb593, 3, none⟩) (Kd.R_far (p := ⟨gb593, 2, none⟩) (Kd.R_far (p := ⟨gb593, 1, none⟩) (Kd.R_far (p := ⟨gb593, 0, none⟩) (Kd.R_types HO_611008.out BK593.out (by decide)) (fun _ hk => hk.2) (.int .i64 (wrap64 (rd t597 0)))) (fun _ hk => hk.2) (.int .u64 (rd t597 1))) (fun _ hk => hk.2) (.int .u64 (rd t597 2))) (fun _ hk => hk.2) (.int .u64 (rd t597 3))) (fun _ hk => hk.2) (.int .u64 (rd t597 4))) (fun _ hk => hk.2) (.int .u64 (rd t597 5))) (fun _ hk => hk.2) (.int .u64 (rd t597 6))) (fun _ hk => hk.2) (.bool (t611 == 1))) (fun _ hk => hk.2) (.slice Ao80 x611008_5.length co80)) (fun _ hk => hk.2) (.string t626)) (fun _ hk => trivial), by repeat (first | (with_reducible first | exact HB.out | apply below_alloc | apply pw_below_drewN | apply below_drew1 | refine below_set ?_ GE593.out | refine below_set ?_ GE610.out) | exact HB.out)⟩
                                                  · replace c77 := Bool.eq_false_iff.mpr c77
                                                    subst c77
                                                    have H1 : (some (0, 0, 0, 0, 0, 0, 0, false, ([] : List (S75)), (⟨#[]⟩ : ByteArray), 3)) = some (r1, r2, r3, r4, r5, r6, r7, r8, r9, r10, r11) := by rw [if_neg (show ¬ (false = true) by decide)] at H; exact H
                                                    clear H
                                                    have H := H1
                                                    clear H1
                                                    simp only [Option.some.injEq, Prod.mk.injEq] at H
                                                    obtain ⟨rfl, rfl, rfl, rfl, rfl, rfl, rfl, rfl, rfl, rfl, rfl⟩ := H
                                                    go_wp2_with (first | ((with_reducible refine gate_callee (f := 76) rfl ?_); refine goesL_ (some 149) rfl rfl Try.func76 (by kernel_rfl) rfl #[.string x15_5] rfl (by (try simp only [List.map_toArray, List.map_cons, List.map_nil]); first | done | rfl | (simp only [List.length_drop, List.length_take]; rfl)) ?_; (with_reducible refine (ferruleref01_TakeText.calls k5 x15_5 t626 t627 t628 _ A68.out).mono ?_); rintro e w' ⟨rfl, ⟨nd, rfl⟩⟩; refine ⟨_, rfl, ?_⟩; (try (rw [drewN_self wr]; generalize hq_ : World.drewN wr _ = wr; have n0_ : Aside0 (Kd.R k75 75 wr w.heap.size (fun _ => True) u611008 x611008_5) := ⟨by rw [← hq_]; exact (by (with_reducible repeat (first | apply Kd.R_alloc | apply Kd.R_drewN | apply Kd.R_drew)); exact HO_611008.out)⟩; have n1_ : Aside0 (wr.heap[gb593]? = some (.cells #[.int .i64 x594000_5, .int .u64 x594001_5, .int .u64 x594002_5, .int .u64 x594003_5, .int .u64 x594004_5, .int .u64 x594005_5, .int .u64 x594006_5, .bool x594007_5, .slice none 0 0, .string x594009_5] 57 (0, 0))) := ⟨by rw [← hq_]; exact (by (with_reducible repeat (first | refine blk_drewN ?_ _ | refine blk_drew ?_ | refine blk_alloc ?_ _)); exact BK593.out)⟩; have n2_ : Aside0 (wr.heap[gb610]? = some (.cells #[.int .i64 (wrap64 (rd t597 0)), .int .u64 (rd t597 1), .int .u64 (rd t597 2), .int .u64 (rd t597 3), .int .u64 (rd t597 4), .int .u64 (rd t597 5), .int .u64 (rd t597 6), .bool (t611 == 1), u611008, .string (⟨#[]⟩ : ByteArray)] 57 (0, 0))) := ⟨by rw [← hq_]; exact (by (with_reducible repeat (first | refine blk_drewN ?_ _ | refine blk_drew ?_ | refine blk_alloc ?_ _)); exact BK610.out)⟩; have n3_ : Aside0 (Below w.heap.size w wr) := ⟨by rw [← hq_]; exact (by repeat (first | (with_reducible first | exact HB.out | apply below_alloc | apply pw_below_drewN | apply below_drew1 | refine below_set ?_ GE593.out | refine below_set ?_ GE610.out) | exact HB.out))⟩; clear HO_611008 BK593 BK610 HB hq_; have HO_611008 := n0_; have BK593 := n1_; have BK610 := n2_; have HB := n3_; clear n0_ n1_ n2_ n3_)); have hnb84 := NB610_593.out; have hnc84 := NB593_610.out; have hcz85_0 : wr.cell? ⟨gb610, 0, none⟩ = some (.int .i64 (wrap64 (rd t597 0))) := (blk_cell BK610.out 0).trans rfl; have hcz85_1 : wr.cell? ⟨gb610, 1, none⟩ = some (.int .u64 (rd t597 1)) := (blk_cell BK610.out 1).trans rfl; have hcz85_2 : wr.cell? ⟨gb610, 2, none⟩ = some (.int .u64 (rd t597 2)) := (blk_cell BK610.out 2).trans rfl; have hcz85_3 : wr.cell? ⟨gb610, 3, none⟩ = some (.int .u64 (rd t597 3)) := (blk_cell BK610.out 3).trans rfl; have hcz85_4 : wr.cell? ⟨gb610, 4, none⟩ = some (.int .u64 (rd t597 4)) := (blk_cell BK610.out 4).trans rfl; have hcz85_5 : wr.cell? ⟨gb610, 5, none⟩ = some (.int .u64 (rd t597 5)) := (blk_cell BK610.out 5).trans rfl; have hcz85_6 : wr.cell? ⟨gb610, 6, none⟩ = some (.int .u64 (rd t597 6)) := (blk_cell BK610.out 6).trans rfl; have hcz85_7 : wr.cell? ⟨gb610, 7, none⟩ = some (.bool (t611 == 1)) := (blk_cell BK610.out 7).trans rfl; have hcz85_8 : wr.cell? ⟨gb610, 8, none⟩ = some (u611008) := (blk_cell BK610.out 8).trans rfl; have hcz85_9 : wr.cell? ⟨gb610, 9, none⟩ = some (.string (⟨#[]⟩ : ByteArray)) := (blk_cell BK610.out 9).trans rfl; have hfz85_0 := blk_frozen BK610.out 0; have hfz85_1 := blk_frozen BK610.out 1; have hfz85_2 := blk_frozen BK610.out 2; have hfz85_3 := blk_frozen BK610.out 3; have hfz85_4 := blk_frozen BK610.out 4; have hfz85_5 := blk_frozen BK610.out 5; have hfz85_6 := blk_frozen BK610.out 6; have hfz85_7 := blk_frozen BK610.out 7; have hfz85_8 := blk_frozen BK610.out 8; have hfz85_9 := blk_frozen BK610.out 9; obtain ⟨Ao86, co86, eo86⟩ := Kd.R_slice HO_611008.out; subst eo86) | ((with_reducible refine gate_callee (f := 34) rfl ?_); refine goesL_ (some 156) rfl rfl Try.func34 (by kernel_rfl) rfl #[.agg #[.int .i64 (wrap64 (rd t597 0)), .int .u64 (rd t597 1), .int .u64 (rd t597 2), .int .u64 (rd t597 3), .int .u64 (rd t597 4), .int .u64 (rd t597 5), .int .u64 (rd t597 6), .bool (t611 == 1), .slice Ao86 x611008_5.length co86, .string t626]] rfl (by (try simp only [List.map_toArray, List.map_cons, List.map_nil]); first | done | rfl | (simp only [List.length_drop, List.length_take]; rfl)) ?_; (with_reducible refine (ferruleref17_May.calls k5 (wrap64 (rd t597 0)) (rd t597 1) (rd t597 2) (rd t597 3) (rd t597 4) (rd t597 5) (rd t597 6) (t611 == 1) _ _ x611008_5 t626 false _ ?side1 ?side2 A69.out).mono ?_); (case side1 => refine (Kd.R_reads' (e := 75) (base := w.heap.size) (ok := fun k_ => True) (n := x611008_5.length) (c := co86) ?_).2.2; exact (by (with_reducible repeat (first | apply Kd.R_alloc | apply Kd.R_drewN | apply Kd.R_drew)); exact (Kd.R_mono (Kd.R_far (p := ⟨gb610, 9, none⟩) (Kd.R_types HO_611008.out BK610.out (by decide)) (fun _ hk => hk.2) (.string t626)) (fun _ h_ => h_.1)))); (case side2 => exact (Kd.R_reads' HO_611008.out).2.1); rintro e w87 ⟨rfl, hb⟩; refine ⟨_, rfl, ?_⟩; have n0_ := Aside0.mk (Kd.R_below (by (with_reducible repeat (first | apply Kd.R_alloc | apply Kd.R_drewN | apply Kd.R_drew)); exact (Kd.R_mono (Kd.R_far (p := ⟨gb610, 9, none⟩) (Kd.R_types HO_611008.out BK610.out (by decide)) (fun _ hk => hk.2) (.string t626)) (fun _ h_ => h_.1))) hb); have n1_ := Aside0.mk (blk_below (g := gb593) (o := .cells #[.int .i64 x594000_5, .int .u64 x594001_5, .int .u64 x594002_5, .int .u64 x594003_5, .int .u64 x594004_5, .int .u64 x594005_5, .int .u64 x594006_5, .bool x594007_5, .slice none 0 0, .string x594009_5] 57 (0, 0)) (by (with_reducible repeat (first | refine blk_drewN ?_ _ | refine blk_drew ?_ | refine blk_alloc ?_ _)); refine blk_far ?_ NB593_610.out _; (with_reducible repeat (first | refine blk_drewN ?_ _ | refine blk_drew ?_ | refine blk_alloc ?_ _)); exact BK593.out) hb); have n2_ := Aside0.mk (blk_below (g := gb610) (o := .cells #[.int .i64 (wrap64 (rd t597 0)), .int .u64 (rd t597 1), .int .u64 (rd t597 2), .int .u64 (rd t597 3), .int .u64 (rd t597 4), .int .u64 (rd t597 5), .int .u64 (rd t597 6), .bool (t611 == 1), .slice Ao86 x611008_5.length co86, .string t626] 57 (0, 0)) (by (with_reducible repeat (first | refine blk_drewN ?_ _ | refine blk_drew ?_ | refine blk_alloc ?_ _)); refine blk_put (cs := #[.int .i64 (wrap64 (rd t597 0)), .int .u64 (rd t597 1), .int .u64 (rd t597 2), .int .u64 (rd t597 3), .int .u64 (rd t597 4), .int .u64 (rd t597 5), .int .u64 (rd t597 6), .bool (t611 == 1), .slice Ao86 x611008_5.length co86, .string (⟨#[]⟩ : ByteArray)]) ?_ 9 _ rfl; (with_reducible repeat (first | refine blk_drewN ?_ _ | refine blk_drew ?_ | refine blk_alloc ?_ _)); exact BK610.out) hb); have n3_ := Aside0.mk (below_step (by repeat (first | (with_reducible first | exact HB.out | apply below_alloc | apply pw_below_drewN | apply below_drew1 | refine below_set ?_ GE593.out | refine below_set ?_ GE610.out) | exact HB.out | exact Below.refl _ _)) hb); clear HO_611008; clear BK593; clear BK610; clear HB; have HO_611008 := n0_; have BK593 := n1_; have BK610 := n2_; have HB := n3_; clear n0_ n1_ n2_ n3_; (try clear hb); (try clear hb2); (try clear hk); (try clear hi); have hcz88_0 : w87.cell? ⟨gb593, 0, none⟩ = some (.int .i64 x594000_5) := (blk_cell BK593.out 0).trans rfl; have hcz88_1 : w87.cell? ⟨gb593, 1, none⟩ = some (.int .u64 x594001_5) := (blk_cell BK593.out 1).trans rfl; have hcz88_2 : w87.cell? ⟨gb593, 2, none⟩ = some (.int .u64 x594002_5) := (blk_cell BK593.out 2).trans rfl; have hcz88_3 : w87.cell? ⟨gb593, 3, none⟩ = some (.int .u64 x594003_5) := (blk_cell BK593.out 3).trans rfl; have hcz88_4 : w87.cell? ⟨gb593, 4, none⟩ = some (.int .u64 x594004_5) := (blk_cell BK593.out 4).trans rfl; have hcz88_5 : w87.cell? ⟨gb593, 5, none⟩ = some (.int .u64 x594005_5) := (blk_cell BK593.out 5).trans rfl; have hcz88_6 : w87.cell? ⟨gb593, 6, none⟩ = some (.int .u64 x594006_5) := (blk_cell BK593.out 6).trans rfl; have hcz88_7 : w87.cell? ⟨gb593, 7, none⟩ = some (.bool x594007_5) := (blk_cell BK593.out 7).trans rfl; have hcz88_8 : w87.cell? ⟨gb593, 8, none⟩ = some (.slice none 0 0) := (blk_cell BK593.out 8).trans rfl; have hcz88_9 : w87.cell? ⟨gb593, 9, none⟩ = some (.string x594009_5) := (blk_cell BK593.out 9).trans rfl; have hfz88_0 := blk_frozen BK593.out 0; have hfz88_1 := blk_frozen BK593.out 1; have hfz88_2 := blk_frozen BK593.out 2; have hfz88_3 := blk_frozen BK593.out 3; have hfz88_4 := blk_frozen BK593.out 4; have hfz88_5 := blk_frozen BK593.out 5; have hfz88_6 := blk_frozen BK593.out 6; have hfz88_7 := blk_frozen BK593.out 7; have hfz88_8 := blk_frozen BK593.out 8; have hfz88_9 := blk_frozen BK593.out 9))
                                                    refine bodyPost_ret (results_ct rfl _ _ gb593 57 #[.int .i64 0, .int .u64 0, .int .u64 0, .int .u64 0, .int .u64 0, .int .u64 0, .int .u64 0, .bool false, .slice none 0 0, .string (⟨#[]⟩ : ByteArray)] (0, 0) _ rfl (by (with_reducible repeat (first | refine blk_drewN ?_ _ | refine blk_drew ?_ | refine blk_alloc ?_ _)); refine blk_put (cs := #[.int .i64 0, .int .u64 0, .int .u64 0, .int .u64 0, .int .u64 0, .int .u64 0, .int .u64 0, .bool false, .slice none 0 0, .string x594009_5]) ?_ 9 _ rfl; (with_reducible repeat (first | refine blk_drewN ?_ _ | refine blk_drew ?_ | refine blk_alloc ?_ _)); refine blk_put (cs := #[.int .i64 0, .int .u64 0, .int .u64 0, .int .u64 0, .int .u64 0, .int .u64 0, .int .u64 0, .bool false, .slice none 0 0, .string x594009_5]) ?_ 8 _ rfl; (with_reducible repeat (first | refine blk_drewN ?_ _ | refine blk_drew ?_ | refine blk_alloc ?_ _)); refine blk_put (cs := #[.int .i64 0, .int .u64 0, .int .u64 0, .int .u64 0, .int .u64 0, .int .u64 0, .int .u64 0, .bool x594007_5, .slice none 0 0, .string x594009_5]) ?_ 7 _ rfl; (with_reducible repeat (first | refine blk_drewN ?_ _ | refine blk_drew ?_ | refine blk_alloc ?_ _)); refine blk_put (cs := #[.int .i64 0, .int .u64 0, .int .u64 0, .int .u64 0, .int .u64 0, .int .u64 0, .int .u64 x594006_5, .bool x594007_5, .slice none 0 0, .string x594009_5]) ?_ 6 _ rfl; (with_reducible repeat (first | refine blk_drewN ?_ _ | refine blk_drew ?_ | refine blk_alloc ?_ _)); refine blk_put (cs := #[.int .i64 0, .int .u64 0, .int .u64 0, .int .u64 0, .int .u64 0, .int .u64 x594005_5, .int .u64 x594006_5, .bool x594007_5, .slice none 0 0, .string x594009_5]) ?_ 5 _ rfl; (with_reducible repeat (first | refine blk_drewN ?_ _ | refine blk_drew ?_ | refine blk_alloc ?_ _)); refine blk_put (cs := #[.int .i64 0, .int .u64 0, .int .u64 0, .int .u64 0, .int .u64 x594004_5, .int .u64 x594005_5, .int .u64 x594006_5, .bool x594007_5, .slice none 0 0, .string x594009_5]) ?_ 4 _ rfl; (with_reducible repeat (first | refine blk_drewN ?_ _ | refine blk_drew ?_ | refine blk_alloc ?_ _)); refine blk_put (cs := #[.int .i64 0, .int .u64 0, .int .u64 0, .int .u64 x594003_5, .int .u64 x594004_5, .int .u64 x594005_5, .int .u64 x594006_5, .bool x594007_5, .slice none 0 0, .string x594009_5]) ?_ 3 _ rfl; (with_reducible repeat (first | refine blk_drewN ?_ _ | refine blk_drew ?_ | refine blk_alloc ?_ _)); refine blk_put (cs := #[.int .i64 0, .int .u64 0, .int .u64 x594002_5, .int .u64 x594003_5, .int .u64 x594004_5, .int .u64 x594005_5, .int .u64 x594006_5, .bool x594007_5, .slice none 0 0, .string x594009_5]) ?_ 2 _ rfl; (with_reducible repeat (first | refine blk_drewN ?_ _ | refine blk_drew ?_ | refine blk_alloc ?_ _)); refine blk_put (cs := #[.int .i64 0, .int .u64 x594001_5, .int .u64 x594002_5, .int .u64 x594003_5, .int .u64 x594004_5, .int .u64 x594005_5, .int .u64 x594006_5, .bool x594007_5, .slice none 0 0, .string x594009_5]) ?_ 1 _ rfl; (with_reducible repeat (first | refine blk_drewN ?_ _ | refine blk_drew ?_ | refine blk_alloc ?_ _)); refine blk_put (cs := #[.int .i64 x594000_5, .int .u64 x594001_5, .int .u64 x594002_5, .int .u64 x594003_5, .int .u64 x594004_5, .int .u64 x594005_5, .int .u64 x594006_5, .bool x594007_5, .slice none 0 0, .string x594009_5]) ?_ 0 _ rfl; (with_reducible repeat (first | refine blk_drewN ?_ _ | refine blk_drew ?_ | refine blk_alloc ?_ _)); exact BK593.out) Try.underlying57 rfl (by kernel_rfl)) rfl ?_
                                                    exact ⟨_, by first | rfl | (simp [errW_none, errW_some] <;> rfl) | (simp [*, errW_none, errW_some] <;> rfl), by first | exact Kd.R_nil _ _ _ _ _ | exact Kd.N_nil _ _ _ _ _ | exact Kd.V_nil _ _ _ _ _ | exact Kd.Q_nil _ _ _ _ _ | exact Kd.S_nil _ _ _ _ _, by repeat (first | (with_reducible first | exact HB.out | apply below_alloc | apply pw_below_drewN | apply below_drew1 | refine below_set ?_ GE593.out | refine below_set ?_ GE610.out) | exact HB.out)⟩
                                              · rw [if_neg c70] at H
                                                have c70b0 : (t628 == 0) = false := beq_eq_false_iff_ne.mpr c70
                                                have c70b1 : (t628 != 0) = true := bne_iff_ne.mpr c70
                                                simp only [Option.some.injEq, Prod.mk.injEq] at H
                                                obtain ⟨rfl, rfl, rfl, rfl, rfl, rfl, rfl, rfl, rfl, rfl, rfl⟩ := H
                                                go_wp2_with (first | ((with_reducible refine gate_callee (f := 76) rfl ?_); refine goesL_ (some 149) rfl rfl Try.func76 (by kernel_rfl) rfl #[.string x15_5] rfl (by (try simp only [List.map_toArray, List.map_cons, List.map_nil]); first | done | rfl | (simp only [List.length_drop, List.length_take]; rfl)) ?_; (with_reducible refine (ferruleref01_TakeText.calls k5 x15_5 t626 t627 t628 _ A68.out).mono ?_); rintro e w' ⟨rfl, ⟨nd, rfl⟩⟩; refine ⟨_, rfl, ?_⟩; (try (rw [drewN_self wr]; generalize hq_ : World.drewN wr _ = wr; have n0_ : Aside0 (Kd.R k75 75 wr w.heap.size (fun _ => True) u611008 x611008_5) := ⟨by rw [← hq_]; exact (by (with_reducible repeat (first | apply Kd.R_alloc | apply Kd.R_drewN | apply Kd.R_drew)); exact HO_611008.out)⟩; have n1_ : Aside0 (wr.heap[gb593]? = some (.cells #[.int .i64 x594000_5, .int .u64 x594001_5, .int .u64 x594002_5, .int .u64 x594003_5, .int .u64 x594004_5, .int .u64 x594005_5, .int .u64 x594006_5, .bool x594007_5, .slice none 0 0, .string x594009_5] 57 (0, 0))) := ⟨by rw [← hq_]; exact (by (with_reducible repeat (first | refine blk_drewN ?_ _ | refine blk_drew ?_ | refine blk_alloc ?_ _)); exact BK593.out)⟩; have n2_ : Aside0 (wr.heap[gb610]? = some (.cells #[.int .i64 (wrap64 (rd t597 0)), .int .u64 (rd t597 1), .int .u64 (rd t597 2), .int .u64 (rd t597 3), .int .u64 (rd t597 4), .int .u64 (rd t597 5), .int .u64 (rd t597 6), .bool (t611 == 1), u611008, .string (⟨#[]⟩ : ByteArray)] 57 (0, 0))) := ⟨by rw [← hq_]; exact (by (with_reducible repeat (first | refine blk_drewN ?_ _ | refine blk_drew ?_ | refine blk_alloc ?_ _)); exact BK610.out)⟩; have n3_ : Aside0 (Below w.heap.size w wr) := ⟨by rw [← hq_]; exact (by repeat (first | (with_reducible first | exact HB.out | apply below_alloc | apply pw_below_drewN | apply below_drew1 | refine below_set ?_ GE593.out | refine below_set ?_ GE610.out) | exact HB.out))⟩; clear HO_611008 BK593 BK610 HB hq_; have HO_611008 := n0_; have BK593 := n1_; have BK610 := n2_; have HB := n3_; clear n0_ n1_ n2_ n3_)); have hnb89 := NB610_593.out; have hnc89 := NB593_610.out; have hcz90_0 : wr.cell? ⟨gb610, 0, none⟩ = some (.int .i64 (wrap64 (rd t597 0))) := (blk_cell BK610.out 0).trans rfl; have hcz90_1 : wr.cell? ⟨gb610, 1, none⟩ = some (.int .u64 (rd t597 1)) := (blk_cell BK610.out 1).trans rfl; have hcz90_2 : wr.cell? ⟨gb610, 2, none⟩ = some (.int .u64 (rd t597 2)) := (blk_cell BK610.out 2).trans rfl; have hcz90_3 : wr.cell? ⟨gb610, 3, none⟩ = some (.int .u64 (rd t597 3)) := (blk_cell BK610.out 3).trans rfl; have hcz90_4 : wr.cell? ⟨gb610, 4, none⟩ = some (.int .u64 (rd t597 4)) := (blk_cell BK610.out 4).trans rfl; have hcz90_5 : wr.cell? ⟨gb610, 5, none⟩ = some (.int .u64 (rd t597 5)) := (blk_cell BK610.out 5).trans rfl; have hcz90_6 : wr.cell? ⟨gb610, 6, none⟩ = some (.int .u64 (rd t597 6)) := (blk_cell BK610.out 6).trans rfl; have hcz90_7 : wr.cell? ⟨gb610, 7, none⟩ = some (.bool (t611 == 1)) := (blk_cell BK610.out 7).trans rfl; have hcz90_8 : wr.cell? ⟨gb610, 8, none⟩ = some (u611008) := (blk_cell BK610.out 8).trans rfl; have hcz90_9 : wr.cell? ⟨gb610, 9, none⟩ = some (.string (⟨#[]⟩ : ByteArray)) := (blk_cell BK610.out 9).trans rfl; have hfz90_0 := blk_frozen BK610.out 0; have hfz90_1 := blk_frozen BK610.out 1; have hfz90_2 := blk_frozen BK610.out 2; have hfz90_3 := blk_frozen BK610.out 3; have hfz90_4 := blk_frozen BK610.out 4; have hfz90_5 := blk_frozen BK610.out 5; have hfz90_6 := blk_frozen BK610.out 6; have hfz90_7 := blk_frozen BK610.out 7; have hfz90_8 := blk_frozen BK610.out 8; have hfz90_9 := blk_frozen BK610.out 9; obtain ⟨Ao91, co91, eo91⟩ := Kd.R_slice HO_611008.out; subst eo91) | ((with_reducible refine gate_callee (f := 34) rfl ?_); refine goesL_ (some 156) rfl rfl Try.func34 (by kernel_rfl) rfl #[.agg #[.int .i64 (wrap64 (rd t597 0)), .int .u64 (rd t597 1), .int .u64 (rd t597 2), .int .u64 (rd t597 3), .int .u64 (rd t597 4), .int .u64 (rd t597 5), .int .u64 (rd t597 6), .bool (t611 == 1), .slice Ao91 x611008_5.length co91, .string t626]] rfl (by (try simp only [List.map_toArray, List.map_cons, List.map_nil]); first | done | rfl | (simp only [List.length_drop, List.length_take]; rfl)) ?_; (with_reducible refine (ferruleref17_May.calls k5 (wrap64 (rd t597 0)) (rd t597 1) (rd t597 2) (rd t597 3) (rd t597 4) (rd t597 5) (rd t597 6) (t611 == 1) _ _ x611008_5 t626 t629 _ ?side1 ?side2 A69.out).mono ?_); (case side1 => refine (Kd.R_reads' (e := 75) (base := w.heap.size) (ok := fun k_ => True) (n := x611008_5.length) (c := co91) ?_).2.2; exact (by (with_reducible repeat (first | apply Kd.R_alloc | apply Kd.R_drewN | apply Kd.R_drew)); exact (Kd.R_mono (Kd.R_far (p := ⟨gb610, 9, none⟩) (Kd.R_types HO_611008.out BK610.out (by decide)) (fun _ hk => hk.2) (.string t626)) (fun _ h_ => h_.1)))); (case side2 => exact (Kd.R_reads' HO_611008.out).2.1); rintro e w92 ⟨rfl, hb⟩; refine ⟨_, rfl, ?_⟩; have n0_ := Aside0.mk (Kd.R_below (by (with_reducible repeat (first | apply Kd.R_alloc | apply Kd.R_drewN | apply Kd.R_drew)); exact (Kd.R_mono (Kd.R_far (p := ⟨gb610, 9, none⟩) (Kd.R_types HO_611008.out BK610.out (by decide)) (fun _ hk => hk.2) (.string t626)) (fun _ h_ => h_.1))) hb); have n1_ := Aside0.mk (blk_below (g := gb593) (o := .cells #[.int .i64 x594000_5, .int .u64 x594001_5, .int .u64 x594002_5, .int .u64 x594003_5, .int .u64 x594004_5, .int .u64 x594005_5, .int .u64 x594006_5, .bool x594007_5, .slice none 0 0, .string x594009_5] 57 (0, 0)) (by (with_reducible repeat (first | refine blk_drewN ?_ _ | refine blk_drew ?_ | refine blk_alloc ?_ _)); refine blk_far ?_ NB593_610.out _; (with_reducible repeat (first | refine blk_drewN ?_ _ | refine blk_drew ?_ | refine blk_alloc ?_ _)); exact BK593.out) hb); have n2_ := Aside0.mk (blk_below (g := gb610) (o := .cells #[.int .i64 (wrap64 (rd t597 0)), .int .u64 (rd t597 1), .int .u64 (rd t597 2), .int .u64 (rd t597 3), .int .u64 (rd t597 4), .int .u64 (rd t597 5), .int .u64 (rd t597 6), .bool (t611 == 1), .slice Ao91 x611008_5.length co91, .string t626] 57 (0, 0)) (by (with_reducible repeat (first | refine blk_drewN ?_ _ | refine blk_drew ?_ | refine blk_alloc ?_ _)); refine blk_put (cs := #[.int .i64 (wrap64 (rd t597 0)), .int .u64 (rd t597 1), .int .u64 (rd t597 2), .int .u64 (rd t597 3), .int .u64 (rd t597 4), .int .u64 (rd t597 5), .int .u64 (rd t597 6), .bool (t611 == 1), .slice Ao91 x611008_5.length co91, .string (⟨#[]⟩ : ByteArray)]) ?_ 9 _ rfl; (with_reducible repeat (first | refine blk_drewN ?_ _ | refine blk_drew ?_ | refine blk_alloc ?_ _)); exact BK610.out) hb); have n3_ := Aside0.mk (below_step (by repeat (first | (with_reducible first | exact HB.out | apply below_alloc | apply pw_below_drewN | apply below_drew1 | refine below_set ?_ GE593.out | refine below_set ?_ GE610.out) | exact HB.out | exact Below.refl _ _)) hb); clear HO_611008; clear BK593; clear BK610; clear HB; have HO_611008 := n0_; have BK593 := n1_; have BK610 := n2_; have HB := n3_; clear n0_ n1_ n2_ n3_; (try clear hb); (try clear hb2); (try clear hk); (try clear hi); have hcz93_0 : w92.cell? ⟨gb593, 0, none⟩ = some (.int .i64 x594000_5) := (blk_cell BK593.out 0).trans rfl; have hcz93_1 : w92.cell? ⟨gb593, 1, none⟩ = some (.int .u64 x594001_5) := (blk_cell BK593.out 1).trans rfl; have hcz93_2 : w92.cell? ⟨gb593, 2, none⟩ = some (.int .u64 x594002_5) := (blk_cell BK593.out 2).trans rfl; have hcz93_3 : w92.cell? ⟨gb593, 3, none⟩ = some (.int .u64 x594003_5) := (blk_cell BK593.out 3).trans rfl; have hcz93_4 : w92.cell? ⟨gb593, 4, none⟩ = some (.int .u64 x594004_5) := (blk_cell BK593.out 4).trans rfl; have hcz93_5 : w92.cell? ⟨gb593, 5, none⟩ = some (.int .u64 x594005_5) := (blk_cell BK593.out 5).trans rfl; have hcz93_6 : w92.cell? ⟨gb593, 6, none⟩ = some (.int .u64 x594006_5) := (blk_cell BK593.out 6).trans rfl; have hcz93_7 : w92.cell? ⟨gb593, 7, none⟩ = some (.bool x594007_5) := (blk_cell BK593.out 7).trans rfl; have hcz93_8 : w92.cell? ⟨gb593, 8, none⟩ = some (.slice none 0 0) := (blk_cell BK593.out 8).trans rfl; have hcz93_9 : w92.cell? ⟨gb593, 9, none⟩ = some (.string x594009_5) := (blk_cell BK593.out 9).trans rfl; have hfz93_0 := blk_frozen BK593.out 0; have hfz93_1 := blk_frozen BK593.out 1; have hfz93_2 := blk_frozen BK593.out 2; have hfz93_3 := blk_frozen BK593.out 3; have hfz93_4 := blk_frozen BK593.out 4; have hfz93_5 := blk_frozen BK593.out 5; have hfz93_6 := blk_frozen BK593.out 6; have hfz93_7 := blk_frozen BK593.out 7; have hfz93_8 := blk_frozen BK593.out 8; have hfz93_9 := blk_frozen BK593.out 9))
                                                refine bodyPost_ret (results_ct rfl _ _ gb593 57 #[.int .i64 0, .int .u64 0, .int .u64 0, .int .u64 0, .int .u64 0, .int .u64 0, .int .u64 0, .bool false, .slice none 0 0, .string (⟨#[]⟩ : ByteArray)] (0, 0) _ rfl (by (with_reducible repeat (first | refine blk_drewN ?_ _ | refine blk_drew ?_ | refine blk_alloc ?_ _)); refine blk_put (cs := #[.int .i64 0, .int .u64 0, .int .u64 0, .int .u64 0, .int .u64 0, .int .u64 0, .int .u64 0, .bool false, .slice none 0 0, .string x594009_5]) ?_ 9 _ rfl; (with_reducible repeat (first | refine blk_drewN ?_ _ | refine blk_drew ?_ | refine blk_alloc ?_ _)); refine blk_put (cs := #[.int .i64 0, .int .u64 0, .int .u64 0, .int .u64 0, .int .u64 0, .int .u64 0, .int .u64 0, .bool false, .slice none 0 0, .string x594009_5]) ?_ 8 _ rfl; (with_reducible repeat (first | refine blk_drewN ?_ _ | refine blk_drew ?_ | refine blk_alloc ?_ _)); refine blk_put (cs := #[.int .i64 0, .int .u64 0, .int .u64 0, .int .u64 0, .int .u64 0, .int .u64 0, .int .u64 0, .bool x594007_5, .slice none 0 0, .string x594009_5]) ?_ 7 _ rfl; (with_reducible repeat (first | refine blk_drewN ?_ _ | refine blk_drew ?_ | refine blk_alloc ?_ _)); refine blk_put (cs := #[.int .i64 0, .int .u64 0, .int .u64 0, .int .u64 0, .int .u64 0, .int .u64 0, .int .u64 x594006_5, .bool x594007_5, .slice none 0 0, .string x594009_5]) ?_ 6 _ rfl; (with_reducible repeat (first | refine blk_drewN ?_ _ | refine blk_drew ?_ | refine blk_alloc ?_ _)); refine blk_put (cs := #[.int .i64 0, .int .u64 0, .int .u64 0, .int .u64 0, .int .u64 0, .int .u64 x594005_5, .int .u64 x594006_5, .bool x594007_5, .slice none 0 0, .string x594009_5]) ?_ 5 _ rfl; (with_reducible repeat (first | refine blk_drewN ?_ _ | refine blk_drew ?_ | refine blk_alloc ?_ _)); refine blk_put (cs := #[.int .i64 0, .int .u64 0, .int .u64 0, .int .u64 0, .int .u64 x594004_5, .int .u64 x594005_5, .int .u64 x594006_5, .bool x594007_5, .slice none 0 0, .string x594009_5]) ?_ 4 _ rfl; (with_reducible repeat (first | refine blk_drewN ?_ _ | refine blk_drew ?_ | refine blk_alloc ?_ _)); refine blk_put (cs := #[.int .i64 0, .int .u64 0, .int .u64 0, .int .u64 x594003_5, .int .u64 x594004_5, .int .u64 x594005_5, .int .u64 x594006_5, .bool x594007_5, .slice none 0 0, .string x594009_5]) ?_ 3 _ rfl; (with_reducible repeat (first | refine blk_drewN ?_ _ | refine blk_drew ?_ | refine blk_alloc ?_ _)); refine blk_put (cs := #[.int .i64 0, .int .u64 0, .int .u64 x594002_5, .int .u64 x594003_5, .int .u64 x594004_5, .int .u64 x594005_5, .int .u64 x594006_5, .bool x594007_5, .slice none 0 0, .string x594009_5]) ?_ 2 _ rfl; (with_reducible repeat (first | refine blk_drewN ?_ _ | refine blk_drew ?_ | refine blk_alloc ?_ _)); refine blk_put (cs := #[.int .i64 0, .int .u64 x594001_5, .int .u64 x594002_5, .int .u64 x594003_5, .int .u64 x594004_5, .int .u64 x594005_5, .int .u64 x594006_5, .bool x594007_5, .slice none 0 0, .string x594009_5]) ?_ 1 _ rfl; (with_reducible repeat (first | refine blk_drewN ?_ _ | refine blk_drew ?_ | refine blk_alloc ?_ _)); refine blk_put (cs := #[.int .i64 x594000_5, .int .u64 x594001_5, .int .u64 x594002_5, .int .u64 x594003_5, .int .u64 x594004_5, .int .u64 x594005_5, .int .u64 x594006_5, .bool x594007_5, .slice none 0 0, .string x594009_5]) ?_ 0 _ rfl; (with_reducible repeat (first | refine blk_drewN ?_ _ | refine blk_drew ?_ | refine blk_alloc ?_ _)); exact BK593.out) Try.underlying57 rfl (by kernel_rfl)) rfl ?_
                                                exact ⟨_, by first | rfl | (simp [errW_none, errW_some] <;> rfl) | (simp [*, errW_none, errW_some] <;> rfl), by first | exact Kd.R_nil _ _ _ _ _ | exact Kd.N_nil _ _ _ _ _ | exact Kd.V_nil _ _ _ _ _ | exact Kd.Q_nil _ _ _ _ _ | exact Kd.S_nil _ _ _ _ _, by repeat (first | (with_reducible first | exact HB.out | apply below_alloc | apply pw_below_drewN | apply below_drew1 | refine below_set ?_ GE593.out | refine below_set ?_ GE610.out) | exact HB.out)⟩
                          · rw [if_neg c25] at H
                            exact absurd H (by simp)
                        · rw [if_neg c24] at H
                          exact absurd H (by simp)
                      · rw [if_neg c23] at H
                        exact absurd H (by simp)
                    · rw [if_neg c22] at H
                      exact absurd H (by simp)
                  · rw [if_neg c21] at H
                    exact absurd H (by simp)
                · rw [if_neg c20] at H
                  exact absurd H (by simp)
              · rw [if_neg c19] at H
                exact absurd H (by simp)
end Go.Proofs.Ytfjhlcbpogihmaa.Pr
