/- What the program's functions compute, and that they compute it: printed out of the translation by a program of this session's (px.py, over the kit's printer). Conditions: none. -/
import Derived.Test.YtgmflfbhifdacaaPr0
import Derived.Test.YtgmflfbhifdacaaPr1
import Derived.Test.YtgmflfbhifdacaaPr3
import Derived.Test.YtgmflfbhifdacaaHandAsk
import Derived.Test.YtgmflfbhifdacaaHandFn
namespace Go.Proofs.Ytgmflfbhifdacaa.Pr
open Go.RowKit Go.Proofs.YtgmflfbhifdacaaW.PrintWords Go.Proofs.YtgmflfbhifdacaaW.PrintLast Go.Proofs.YtgmflfbhifdacaaW.PrintMore
attribute [local go_sem] max2_int min2_int max_two min_two max_three min_three max_four min_four   -- for this text's walks alone
set_option linter.unusedVariables false
set_option linter.unusedSimpArgs false

attribute [local go_sem high] eqA25
/-! ### ferrulelaw12_LockRight: function 6 -/
mutual
def ferrulelaw12_LockRight.l0 : Nat → List (S27) → List (S25) → Bool → List (S40) → Int → Option (Bool)
  | 0, _, _, _, _, _ => none
  | k + 1, x0, x1, x5, x6, x7 => if x7 < (x0.length : Int) then (if 0 ≤ x7 then (if ((rd_T27 x0 x7).f1).toList = ([] : List UInt8) then ((lock_Drop.f x6 ((rd_T27 x0 x7).f0.f0) ((rd_T27 x0 x7).f0.f1)).bind fun t152 => (ferrulelaw12_LockRight.l0 k x0 x1 x5 t152 (wrap64 (x7 + 1)))) else ((lock_Ask.f x6 ((rd_T27 x0 x7).f0.f0) ((rd_T27 x0 x7).f0.f1) ((rd_T27 x0 x7).f1) ((rd_T27 x0 x7).f2) x1).bind fun bt155 => (ferrulelaw12_LockRight.l1 k x0 x1 x5 bt155.1 x7 0))) else (none)) else (some x5)
def ferrulelaw12_LockRight.l1 : Nat → List (S27) → List (S25) → Bool → List (S40) → Int → Int → Option (Bool)
  | 0, _, _, _, _, _, _ => none
  | k + 1, x0, x1, x5, x6, x7, x12 => if x12 < (x6.length : Int) then (ferrulelaw12_LockRight.l2 k x0 x1 x5 x6 x7 x12 0) else (ferrulelaw12_LockRight.l0 k x0 x1 x5 x6 (wrap64 (x7 + 1)))
def ferrulelaw12_LockRight.l2 : Nat → List (S27) → List (S25) → Bool → List (S40) → Int → Int → Int → Option (Bool)
  | 0, _, _, _, _, _, _, _ => none
  | k + 1, x0, x1, x5, x6, x7, x12, x13 => if x13 < x12 then (if 0 ≤ x12 then (if x12 < (x6.length : Int) then (if 0 ≤ x13 then (if x13 < (x6.length : Int) then (if ((rd_T40 x6 x12).f0).toList = ((rd_T40 x6 x13).f0).toList then (if (((rd_T40 x6 x12).f1.f0) == ((rd_T40 x6 x13).f1.f0) && (((rd_T40 x6 x12).f1.f1) == ((rd_T40 x6 x13).f1.f1))) = true then (some false) else (if (rd_T40 x6 x12).f2 = true then (some false) else (if (rd_T40 x6 x13).f2 = true then (some false) else (ferrulelaw12_LockRight.l2 k x0 x1 x5 x6 x7 x12 (wrap64 (x13 + 1)))))) else (ferrulelaw12_LockRight.l2 k x0 x1 x5 x6 x7 x12 (wrap64 (x13 + 1)))) else (none)) else (none)) else (none)) else (none)) else (ferrulelaw12_LockRight.l1 k x0 x1 x5 x6 x7 (wrap64 (x12 + 1)))
end
def ferrulelaw12_LockRight.f (k : Nat) (l0 : List (S27)) (l1 : List (S25)) : Option (Bool) := (ferrulelaw12_shown.f).bind fun t149 => (ferrulelaw12_LockRight.l0 k l0 l1 t149 ([] : List (S40)) 0)
theorem ferrulelaw12_LockRight.mono_l : ∀ k, (∀ y0 y1 y2 y3 y4, LeO (ferrulelaw12_LockRight.l0 k y0 y1 y2 y3 y4) (ferrulelaw12_LockRight.l0 (k + 1) y0 y1 y2 y3 y4)) ∧ (∀ y0 y1 y2 y3 y4 y5, LeO (ferrulelaw12_LockRight.l1 k y0 y1 y2 y3 y4 y5) (ferrulelaw12_LockRight.l1 (k + 1) y0 y1 y2 y3 y4 y5)) ∧ (∀ y0 y1 y2 y3 y4 y5 y6, LeO (ferrulelaw12_LockRight.l2 k y0 y1 y2 y3 y4 y5 y6) (ferrulelaw12_LockRight.l2 (k + 1) y0 y1 y2 y3 y4 y5 y6))
  | 0 => ⟨fun _ _ _ _ _ r h => by simp [ferrulelaw12_LockRight.l0] at h, fun _ _ _ _ _ _ r h => by simp [ferrulelaw12_LockRight.l1] at h, fun _ _ _ _ _ _ _ r h => by simp [ferrulelaw12_LockRight.l2] at h⟩
  | k + 1 => by
    obtain ⟨ih0, ih1, ih2⟩ := ferrulelaw12_LockRight.mono_l k
    refine ⟨?_, ?_, ?_⟩
    · intro y0 y1 y2 y3 y4
      unfold ferrulelaw12_LockRight.l0
      repeat' first
      | (with_reducible exact ih0 _ _ _ _ _)
      | (with_reducible exact ih1 _ _ _ _ _ _)
      | (with_reducible exact ih2 _ _ _ _ _ _ _)
      | (with_reducible exact LeO.refl _)
      | (with_reducible exact LeO.none _)
      | (with_reducible refine LeO.ite ?_ ?_)
      | (with_reducible refine LeO.bind ?_ (fun _ => ?_))
      | exact ih0 _ _ _ _ _
      | exact ih1 _ _ _ _ _ _
      | exact ih2 _ _ _ _ _ _ _
      | exact LeO.none _
      | refine LeO.ite ?_ ?_
      | refine LeO.bind ?_ (fun _ => ?_)
    · intro y0 y1 y2 y3 y4 y5
      unfold ferrulelaw12_LockRight.l1
      repeat' first
      | (with_reducible exact ih0 _ _ _ _ _)
      | (with_reducible exact ih1 _ _ _ _ _ _)
      | (with_reducible exact ih2 _ _ _ _ _ _ _)
      | (with_reducible exact LeO.refl _)
      | (with_reducible exact LeO.none _)
      | (with_reducible refine LeO.ite ?_ ?_)
      | (with_reducible refine LeO.bind ?_ (fun _ => ?_))
      | exact ih0 _ _ _ _ _
      | exact ih1 _ _ _ _ _ _
      | exact ih2 _ _ _ _ _ _ _
      | exact LeO.none _
      | refine LeO.ite ?_ ?_
      | refine LeO.bind ?_ (fun _ => ?_)
    · intro y0 y1 y2 y3 y4 y5 y6
      unfold ferrulelaw12_LockRight.l2
      repeat' first
      | (with_reducible exact ih0 _ _ _ _ _)
      | (with_reducible exact ih1 _ _ _ _ _ _)
      | (with_reducible exact ih2 _ _ _ _ _ _ _)
      | (with_reducible exact LeO.refl _)
      | (with_reducible exact LeO.none _)
      | (with_reducible refine LeO.ite ?_ ?_)
      | (with_reducible refine LeO.bind ?_ (fun _ => ?_))
      | exact ih0 _ _ _ _ _
      | exact ih1 _ _ _ _ _ _
      | exact ih2 _ _ _ _ _ _ _
      | exact LeO.none _
      | refine LeO.ite ?_ ?_
      | refine LeO.bind ?_ (fun _ => ?_)
theorem ferrulelaw12_LockRight.mono : ∀ a0 a1 k, LeO (ferrulelaw12_LockRight.f k a0 a1) (ferrulelaw12_LockRight.f (k + 1) a0 a1) := by
  intro a0 a1 k
  obtain ⟨ih0, ih1, ih2⟩ := ferrulelaw12_LockRight.mono_l k
  unfold ferrulelaw12_LockRight.f
  repeat' first
      | (with_reducible exact ih0 _ _ _ _ _)
      | (with_reducible exact ih1 _ _ _ _ _ _)
      | (with_reducible exact ih2 _ _ _ _ _ _ _)
      | (with_reducible exact LeO.refl _)
      | (with_reducible exact LeO.none _)
      | (with_reducible refine LeO.ite ?_ ?_)
      | (with_reducible refine LeO.bind ?_ (fun _ => ?_))
      | exact ih0 _ _ _ _ _
      | exact ih1 _ _ _ _ _ _
      | exact ih2 _ _ _ _ _ _ _
      | exact LeO.none _
      | refine LeO.ite ?_ ?_
      | refine LeO.bind ?_ (fun _ => ?_)
set_option maxHeartbeats 8000000 in
set_option maxRecDepth 100000 in
theorem ferrulelaw12_LockRight.calls (k : Nat) (A0 : Option Addr) (c0 : Nat) (l0 : List (S27)) (A1 : Option Addr) (c1 : Nat) (l1 : List (S25)) (r : Bool) (w : World) (hr0 : Kd.C k27 w A0 l0.length l0) (hc0 : l0.length ≤ c0) (hr1 : Kd.C k25 w A1 l1.length l1) (hc1 : l1.length ≤ c1) (h : ferrulelaw12_LockRight.f k l0 l1 = some r) :
    Calls Try.prog 6 #[.slice A0 l0.length c0, .slice A1 l1.length c1] w fun e w' => e = .returned (.bool r) ∧ Below w.heap.size w w' := by
  have hu27 := Try.underlying27
  have hu25 := Try.underlying25
  have HR0 := Aside0.mk hr0
  have HC0 := Aside0.mk hc0
  clear hr0 hc0
  have HR1 := Aside0.mk hr1
  have HC1 := Aside0.mk hc1
  clear hr1 hc1
  have HB := Aside0.mk (Below.refl w.heap.size w)
  have H : ((ferrulelaw12_shown.f).bind fun t149 => (ferrulelaw12_LockRight.l0 k l0 l1 t149 ([] : List (S40)) 0)) = some r := h
  clear h
  replace H := Option.bind_eq_some_iff.mp H
  obtain ⟨t149, A30, H⟩ := H
  replace H : (ferrulelaw12_LockRight.l0 k l0 l1 t149 ([] : List (S40)) 0) = some r := H
  have A3 := Aside0.mk A30
  clear A30
  have H' := Aside0.mk H
  clear H
  go_enter Try.func6, Try.ntmps6
  go_wp2_with (first | (go_at_call 9; (with_reducible refine (ferrulelaw12_shown.calls  t149 _ A3.out).mono ?_); rintro e w4 ⟨rfl, hb⟩; have n0_ := Aside0.mk (below_step (by repeat (first | (with_reducible first | exact HB.out | apply below_alloc | apply pw_below_drewN | apply below_drew1) | exact HB.out)) hb); clear HB; have HB := n0_; clear n0_; (try clear hb); (try clear hb2); (try clear hk); (try clear hi)))
  repeat (go_quiet (first | (go_at_call 9; (with_reducible refine (ferrulelaw12_shown.calls  t149 _ A3.out).mono ?_); rintro e w4 ⟨rfl, hb⟩; have n0_ := Aside0.mk (below_step (by repeat (first | (with_reducible first | exact HB.out | apply below_alloc | apply pw_below_drewN | apply below_drew1) | exact HB.out)) hb); clear HB; have HB := n0_; clear n0_; (try clear hb); (try clear hb2); (try clear hk); (try clear hi))); try go_wp2_with (first | (go_at_call 9; (with_reducible refine (ferrulelaw12_shown.calls  t149 _ A3.out).mono ?_); rintro e w4 ⟨rfl, hb⟩; have n0_ := Aside0.mk (below_step (by repeat (first | (with_reducible first | exact HB.out | apply below_alloc | apply pw_below_drewN | apply below_drew1) | exact HB.out)) hb); clear HB; have HB := n0_; clear n0_; (try clear hb); (try clear hb2); (try clear hk); (try clear hi))))
  go_loopg [6, 7] k (fun kq v6 v7 w' => ∃ (x6_1 : List (S40)) (x7_1 : Int), v7 = .int .i64 x7_1 ∧ Aside0 (ferrulelaw12_LockRight.l0 kq l0 l1 t149 x6_1 x7_1 = some r) ∧ Aside0 (kq ≤ k) ∧ Aside0 (Kd.R k40 40 w' w.heap.size (fun _ => True) v6 x6_1) ∧ Aside0 (Below w.heap.size w w'))
  case atStart => exact ⟨(([] : List (S40))), (0), (by first | rfl | (simp; done) | (simp [*]; done)), H', ⟨Nat.le_refl _⟩, ⟨by first | exact Kd.R_nil _ _ _ _ _ | exact Kd.N_nil _ _ _ _ _ | exact Kd.V_nil _ _ _ _ _ | exact Kd.Q_nil _ _ _ _ _ | exact Kd.S_nil _ _ _ _ _⟩, ⟨by repeat (first | (with_reducible first | exact HB.out | apply below_alloc | apply pw_below_drewN | apply below_drew1) | exact HB.out)⟩⟩
  case round =>
    clear H'
    try clear c1
    try clear p2
    obtain ⟨x6_1, x7_1, rfl, HA, HK1, HO_6, HB⟩ := hrel
    cases gk with
    | zero => exact absurd HA.out (by simp [ferrulelaw12_LockRight.l0])
    | succ k1 =>
      have H := HA.out
      clear HA
      simp only [ferrulelaw12_LockRight.l0] at H
      by_cases c5 : x7_1 < (l0.length : Int)
      · rw [if_pos c5] at H
        have c5b0 : decide (x7_1 < (l0.length : Int)) = true := decide_eq_true c5
        clear c5
        by_cases c6 : 0 ≤ x7_1
        · rw [if_pos c6] at H
          have c6b0 : decide (0 ≤ x7_1) = true := decide_eq_true c6
          clear c6
          by_cases c7 : ((rd_T27 l0 x7_1).f1).toList = ([] : List UInt8)
          · rw [if_pos c7] at H
            have c7b0 : (((rd_T27 l0 x7_1).f1).toList == ([] : List UInt8)) = true := beq_iff_eq.mpr c7
            have c7b1 : (((rd_T27 l0 x7_1).f1).toList != ([] : List UInt8)) = false := bne_eq_false_iff_eq.mpr c7
            clear c7
            replace H := Option.bind_eq_some_iff.mp H
            obtain ⟨t152, A80, H⟩ := H
            replace H : (ferrulelaw12_LockRight.l0 k1 l0 l1 t149 t152 (wrap64 (x7_1 + 1))) = some r := H
            have A8 := Aside0.mk A80
            clear A80
            have H' := Aside0.mk H
            clear H
            have p150 : 0 ≤ (x7_1 : Int) := of_decide_eq_true (by first | (with_reducible assumption) | assumption)
            have q150 : x7_1 < (l0.length : Int) := of_decide_eq_true (by first | (with_reducible assumption) | assumption)
            obtain ⟨ad150, e150, hx150_0, hx150_1, hx150_2, hx150_3⟩ := at_T27 HR0.out x7_1 p150 q150
            cases e150
            replace hx150_0 := (HB.out.cell (World.block_lt_of_cell? w _ hx150_0)).trans hx150_0
            replace hx150_1 := (HB.out.cell (World.block_lt_of_cell? w _ hx150_1)).trans hx150_1
            replace hx150_2 := (HB.out.cell (World.block_lt_of_cell? w _ hx150_2)).trans hx150_2
            replace hx150_3 := (HB.out.cell (World.block_lt_of_cell? w _ hx150_3)).trans hx150_3
            replace p150 := eq_true p150
            replace q150 := eq_true q150
            go_wp2_with (first | ((with_reducible refine gate_dst (N := 8) rfl ?_); refine box_event ?hg (N := 8) ?hd (cs := #[.int .u64 0, .int .u64 0, .string (⟨#[]⟩ : ByteArray), .bool false]) (t := 27) ?hr ?_; (case hd => rfl); (case hg => rfl); (case hr => first | (go_simp; done) | (go_simp; rfl)); intro gb151 hg w9 hbox hb; have n0_ := Aside0.mk (Kd.R_below (by (with_reducible repeat (first | apply Kd.R_alloc | apply Kd.R_drewN | apply Kd.R_drew)); exact HO_6.out) hb); have n1_ := Aside0.mk (below_step (by repeat (first | (with_reducible first | exact HB.out | apply below_alloc | apply pw_below_drewN | apply below_drew1) | exact HB.out)) hb); have n2_ := Aside0.mk (hbox); have n3_ := Aside0.mk ((by rw [hg]; exact (below_size (by repeat (first | (with_reducible first | exact HB.out | apply below_alloc | apply pw_below_drewN | apply below_drew1) | exact HB.out))) : w.heap.size ≤ gb151)); have n4_ := Aside0.mk ((by rw [hg]; exact (below_size (by repeat (first | (with_reducible first | exact HB.out | apply below_alloc | apply pw_below_drewN | apply below_drew1) | exact HB.out))) : w.heap.size ≤ gb151)); clear HO_6; clear HB; have HO_6 := n0_; have HB := n1_; have BK151 := n2_; have GW151 := n3_; have GE151 := n4_; clear n0_ n1_ n2_ n3_ n4_; clear hb hbox hg; have hcz10_0 : w9.cell? ⟨gb151, 0, none⟩ = some (.int .u64 0) := (blk_cell BK151.out 0).trans rfl; have hcz10_1 : w9.cell? ⟨gb151, 1, none⟩ = some (.int .u64 0) := (blk_cell BK151.out 1).trans rfl; have hcz10_2 : w9.cell? ⟨gb151, 2, none⟩ = some (.string (⟨#[]⟩ : ByteArray)) := (blk_cell BK151.out 2).trans rfl; have hcz10_3 : w9.cell? ⟨gb151, 3, none⟩ = some (.bool false) := (blk_cell BK151.out 3).trans rfl; have hfz10_0 := blk_frozen BK151.out 0; have hfz10_1 := blk_frozen BK151.out 1; have hfz10_2 := blk_frozen BK151.out 2; have hfz10_3 := blk_frozen BK151.out 3; obtain ⟨Ao11, co11, eo11⟩ := Kd.R_slice HO_6.out; subst eo11) | (go_at_call 16; (with_reducible refine (lock_Drop.calls _ _ x6_1 ((rd_T27 l0 x7_1).f0.f0) ((rd_T27 l0 x7_1).f0.f1) t152 _ ?side1 ?side2 A8.out).mono ?_); (case side1 => refine (Kd.R_reads' (e := 40) (base := w.heap.size) (ok := fun k_ => True) (n := x6_1.length) (c := co11) ?_).2.2; exact (by (with_reducible repeat (first | apply Kd.R_alloc | apply Kd.R_drewN | apply Kd.R_drew)); exact (Kd.R_mono (Kd.R_far (p := ⟨gb151, 3, none⟩) (Kd.R_far (p := ⟨gb151, 2, none⟩) (Kd.R_far (p := ⟨gb151, 1, none⟩) (Kd.R_far (p := ⟨gb151, 0, none⟩) (Kd.R_types HO_6.out BK151.out (by decide)) (fun _ hk => hk.2) (.int .u64 ((rd_T27 l0 x7_1).f0.f0))) (fun _ hk => hk.2) (.int .u64 ((rd_T27 l0 x7_1).f0.f1))) (fun _ hk => hk.2) (.string ((rd_T27 l0 x7_1).f1))) (fun _ hk => hk.2) (.bool ((rd_T27 l0 x7_1).f2))) (fun _ h_ => h_.1)))); (case side2 => exact (Kd.R_reads' HO_6.out).2.1); rintro e w12 ⟨v153, rfl, ho0, hb⟩; have n0_ := Aside0.mk (Kd.R_elder' (by (with_reducible repeat (first | apply Kd.R_alloc | apply Kd.R_drewN | apply Kd.R_drew)); exact (Kd.R_mono (Kd.R_far (p := ⟨gb151, 3, none⟩) (Kd.R_far (p := ⟨gb151, 2, none⟩) (Kd.R_far (p := ⟨gb151, 1, none⟩) (Kd.R_far (p := ⟨gb151, 0, none⟩) (Kd.R_types HO_6.out BK151.out (by decide)) (fun _ hk => hk.2) (.int .u64 ((rd_T27 l0 x7_1).f0.f0))) (fun _ hk => hk.2) (.int .u64 ((rd_T27 l0 x7_1).f0.f1))) (fun _ hk => hk.2) (.string ((rd_T27 l0 x7_1).f1))) (fun _ hk => hk.2) (.bool ((rd_T27 l0 x7_1).f2))) (fun _ h_ => h_.1))) (Kd.R_base ho0) hb); have n1_ := Aside0.mk (Kd.R_lower (Kd.R_new' ho0 (Kd.R_lt (by (with_reducible repeat (first | apply Kd.R_alloc | apply Kd.R_drewN | apply Kd.R_drew)); exact (Kd.R_mono (Kd.R_far (p := ⟨gb151, 3, none⟩) (Kd.R_far (p := ⟨gb151, 2, none⟩) (Kd.R_far (p := ⟨gb151, 1, none⟩) (Kd.R_far (p := ⟨gb151, 0, none⟩) (Kd.R_types HO_6.out BK151.out (by decide)) (fun _ hk => hk.2) (.int .u64 ((rd_T27 l0 x7_1).f0.f0))) (fun _ hk => hk.2) (.int .u64 ((rd_T27 l0 x7_1).f0.f1))) (fun _ hk => hk.2) (.string ((rd_T27 l0 x7_1).f1))) (fun _ hk => hk.2) (.bool ((rd_T27 l0 x7_1).f2))) (fun _ h_ => h_.1))))) (below_size (by repeat (first | (with_reducible first | exact HB.out | apply below_alloc | apply pw_below_drewN | apply below_drew1 | refine below_set ?_ GE151.out) | exact HB.out)))); have n2_ := Aside0.mk (blk_below (g := gb151) (o := .cells #[.int .u64 ((rd_T27 l0 x7_1).f0.f0), .int .u64 ((rd_T27 l0 x7_1).f0.f1), .string ((rd_T27 l0 x7_1).f1), .bool ((rd_T27 l0 x7_1).f2)] 27 (0, 0)) (by (with_reducible repeat (first | refine blk_drewN ?_ _ | refine blk_drew ?_ | refine blk_alloc ?_ _)); refine blk_put (cs := #[.int .u64 ((rd_T27 l0 x7_1).f0.f0), .int .u64 ((rd_T27 l0 x7_1).f0.f1), .string ((rd_T27 l0 x7_1).f1), .bool false]) ?_ 3 _ rfl; (with_reducible repeat (first | refine blk_drewN ?_ _ | refine blk_drew ?_ | refine blk_alloc ?_ _)); refine blk_put (cs := #[.int .u64 ((rd_T27 l0 x7_1).f0.f0), .int .u64 ((rd_T27 l0 x7_1).f0.f1), .string (⟨#[]⟩ : ByteArray), .bool false]) ?_ 2 _ rfl; (with_reducible repeat (first | refine blk_drewN ?_ _ | refine blk_drew ?_ | refine blk_alloc ?_ _)); refine blk_put (cs := #[.int .u64 ((rd_T27 l0 x7_1).f0.f0), .int .u64 0, .string (⟨#[]⟩ : ByteArray), .bool false]) ?_ 1 _ rfl; (with_reducible repeat (first | refine blk_drewN ?_ _ | refine blk_drew ?_ | refine blk_alloc ?_ _)); refine blk_put (cs := #[.int .u64 0, .int .u64 0, .string (⟨#[]⟩ : ByteArray), .bool false]) ?_ 0 _ rfl; (with_reducible repeat (first | refine blk_drewN ?_ _ | refine blk_drew ?_ | refine blk_alloc ?_ _)); exact BK151.out) hb); have n3_ := Aside0.mk (below_step (by repeat (first | (with_reducible first | exact HB.out | apply below_alloc | apply pw_below_drewN | apply below_drew1 | refine below_set ?_ GE151.out) | exact HB.out)) hb); clear HO_6; clear BK151; clear HB; have HO_6 := n0_; have HO154 := n1_; have BK151 := n2_; have HB := n3_; clear n0_ n1_ n2_ n3_; (try clear hb); (try clear hb2); (try clear hk); (try clear hi); (try clear ho0)))
            repeat (go_quiet (first | ((with_reducible refine gate_dst (N := 8) rfl ?_); refine box_event ?hg (N := 8) ?hd (cs := #[.int .u64 0, .int .u64 0, .string (⟨#[]⟩ : ByteArray), .bool false]) (t := 27) ?hr ?_; (case hd => rfl); (case hg => rfl); (case hr => first | (go_simp; done) | (go_simp; rfl)); intro gb151 hg w9 hbox hb; have n0_ := Aside0.mk (Kd.R_below (by (with_reducible repeat (first | apply Kd.R_alloc | apply Kd.R_drewN | apply Kd.R_drew)); exact HO_6.out) hb); have n1_ := Aside0.mk (below_step (by repeat (first | (with_reducible first | exact HB.out | apply below_alloc | apply pw_below_drewN | apply below_drew1) | exact HB.out)) hb); have n2_ := Aside0.mk (hbox); have n3_ := Aside0.mk ((by rw [hg]; exact (below_size (by repeat (first | (with_reducible first | exact HB.out | apply below_alloc | apply pw_below_drewN | apply below_drew1) | exact HB.out))) : w.heap.size ≤ gb151)); have n4_ := Aside0.mk ((by rw [hg]; exact (below_size (by repeat (first | (with_reducible first | exact HB.out | apply below_alloc | apply pw_below_drewN | apply below_drew1) | exact HB.out))) : w.heap.size ≤ gb151)); clear HO_6; clear HB; have HO_6 := n0_; have HB := n1_; have BK151 := n2_; have GW151 := n3_; have GE151 := n4_; clear n0_ n1_ n2_ n3_ n4_; clear hb hbox hg; have hcz10_0 : w9.cell? ⟨gb151, 0, none⟩ = some (.int .u64 0) := (blk_cell BK151.out 0).trans rfl; have hcz10_1 : w9.cell? ⟨gb151, 1, none⟩ = some (.int .u64 0) := (blk_cell BK151.out 1).trans rfl; have hcz10_2 : w9.cell? ⟨gb151, 2, none⟩ = some (.string (⟨#[]⟩ : ByteArray)) := (blk_cell BK151.out 2).trans rfl; have hcz10_3 : w9.cell? ⟨gb151, 3, none⟩ = some (.bool false) := (blk_cell BK151.out 3).trans rfl; have hfz10_0 := blk_frozen BK151.out 0; have hfz10_1 := blk_frozen BK151.out 1; have hfz10_2 := blk_frozen BK151.out 2; have hfz10_3 := blk_frozen BK151.out 3; obtain ⟨Ao11, co11, eo11⟩ := Kd.R_slice HO_6.out; subst eo11) | (go_at_call 16; (with_reducible refine (lock_Drop.calls _ _ x6_1 ((rd_T27 l0 x7_1).f0.f0) ((rd_T27 l0 x7_1).f0.f1) t152 _ ?side1 ?side2 A8.out).mono ?_); (case side1 => refine (Kd.R_reads' (e := 40) (base := w.heap.size) (ok := fun k_ => True) (n := x6_1.length) (c := co11) ?_).2.2; exact (by (with_reducible repeat (first | apply Kd.R_alloc | apply Kd.R_drewN | apply Kd.R_drew)); exact (Kd.R_mono (Kd.R_far (p := ⟨gb151, 3, none⟩) (Kd.R_far (p := ⟨gb151, 2, none⟩) (Kd.R_far (p := ⟨gb151, 1, none⟩) (Kd.R_far (p := ⟨gb151, 0, none⟩) (Kd.R_types HO_6.out BK151.out (by decide)) (fun _ hk => hk.2) (.int .u64 ((rd_T27 l0 x7_1).f0.f0))) (fun _ hk => hk.2) (.int .u64 ((rd_T27 l0 x7_1).f0.f1))) (fun _ hk => hk.2) (.string ((rd_T27 l0 x7_1).f1))) (fun _ hk => hk.2) (.bool ((rd_T27 l0 x7_1).f2))) (fun _ h_ => h_.1)))); (case side2 => exact (Kd.R_reads' HO_6.out).2.1); rintro e w12 ⟨v153, rfl, ho0, hb⟩; have n0_ := Aside0.mk (Kd.R_elder' (by (with_reducible repeat (first | apply Kd.R_alloc | apply Kd.R_drewN | apply Kd.R_drew)); exact (Kd.R_mono (Kd.R_far (p := ⟨gb151, 3, none⟩) (Kd.R_far (p := ⟨gb151, 2, none⟩) (Kd.R_far (p := ⟨gb151, 1, none⟩) (Kd.R_far (p := ⟨gb151, 0, none⟩) (Kd.R_types HO_6.out BK151.out (by decide)) (fun _ hk => hk.2) (.int .u64 ((rd_T27 l0 x7_1).f0.f0))) (fun _ hk => hk.2) (.int .u64 ((rd_T27 l0 x7_1).f0.f1))) (fun _ hk => hk.2) (.string ((rd_T27 l0 x7_1).f1))) (fun _ hk => hk.2) (.bool ((rd_T27 l0 x7_1).f2))) (fun _ h_ => h_.1))) (Kd.R_base ho0) hb); have n1_ := Aside0.mk (Kd.R_lower (Kd.R_new' ho0 (Kd.R_lt (by (with_reducible repeat (first | apply Kd.R_alloc | apply Kd.R_drewN | apply Kd.R_drew)); exact (Kd.R_mono (Kd.R_far (p := ⟨gb151, 3, none⟩) (Kd.R_far (p := ⟨gb151, 2, none⟩) (Kd.R_far (p := ⟨gb151, 1, none⟩) (Kd.R_far (p := ⟨gb151, 0, none⟩) (Kd.R_types HO_6.out BK151.out (by decide)) (fun _ hk => hk.2) (.int .u64 ((rd_T27 l0 x7_1).f0.f0))) (fun _ hk => hk.2) (.int .u64 ((rd_T27 l0 x7_1).f0.f1))) (fun _ hk => hk.2) (.string ((rd_T27 l0 x7_1).f1))) (fun _ hk => hk.2) (.bool ((rd_T27 l0 x7_1).f2))) (fun _ h_ => h_.1))))) (below_size (by repeat (first | (with_reducible first | exact HB.out | apply below_alloc | apply pw_below_drewN | apply below_drew1 | refine below_set ?_ GE151.out) | exact HB.out)))); have n2_ := Aside0.mk (blk_below (g := gb151) (o := .cells #[.int .u64 ((rd_T27 l0 x7_1).f0.f0), .int .u64 ((rd_T27 l0 x7_1).f0.f1), .string ((rd_T27 l0 x7_1).f1), .bool ((rd_T27 l0 x7_1).f2)] 27 (0, 0)) (by (with_reducible repeat (first | refine blk_drewN ?_ _ | refine blk_drew ?_ | refine blk_alloc ?_ _)); refine blk_put (cs := #[.int .u64 ((rd_T27 l0 x7_1).f0.f0), .int .u64 ((rd_T27 l0 x7_1).f0.f1), .string ((rd_T27 l0 x7_1).f1), .bool false]) ?_ 3 _ rfl; (with_reducible repeat (first | refine blk_drewN ?_ _ | refine blk_drew ?_ | refine blk_alloc ?_ _)); refine blk_put (cs := #[.int .u64 ((rd_T27 l0 x7_1).f0.f0), .int .u64 ((rd_T27 l0 x7_1).f0.f1), .string (⟨#[]⟩ : ByteArray), .bool false]) ?_ 2 _ rfl; (with_reducible repeat (first | refine blk_drewN ?_ _ | refine blk_drew ?_ | refine blk_alloc ?_ _)); refine blk_put (cs := #[.int .u64 ((rd_T27 l0 x7_1).f0.f0), .int .u64 0, .string (⟨#[]⟩ : ByteArray), .bool false]) ?_ 1 _ rfl; (with_reducible repeat (first | refine blk_drewN ?_ _ | refine blk_drew ?_ | refine blk_alloc ?_ _)); refine blk_put (cs := #[.int .u64 0, .int .u64 0, .string (⟨#[]⟩ : ByteArray), .bool false]) ?_ 0 _ rfl; (with_reducible repeat (first | refine blk_drewN ?_ _ | refine blk_drew ?_ | refine blk_alloc ?_ _)); exact BK151.out) hb); have n3_ := Aside0.mk (below_step (by repeat (first | (with_reducible first | exact HB.out | apply below_alloc | apply pw_below_drewN | apply below_drew1 | refine below_set ?_ GE151.out) | exact HB.out)) hb); clear HO_6; clear BK151; clear HB; have HO_6 := n0_; have HO154 := n1_; have BK151 := n2_; have HB := n3_; clear n0_ n1_ n2_ n3_; (try clear hb); (try clear hb2); (try clear hk); (try clear hi); (try clear ho0))); try go_wp2_with (first | ((with_reducible refine gate_dst (N := 8) rfl ?_); refine box_event ?hg (N := 8) ?hd (cs := #[.int .u64 0, .int .u64 0, .string (⟨#[]⟩ : ByteArray), .bool false]) (t := 27) ?hr ?_; (case hd => rfl); (case hg => rfl); (case hr => first | (go_simp; done) | (go_simp; rfl)); intro gb151 hg w9 hbox hb; have n0_ := Aside0.mk (Kd.R_below (by (with_reducible repeat (first | apply Kd.R_alloc | apply Kd.R_drewN | apply Kd.R_drew)); exact HO_6.out) hb); have n1_ := Aside0.mk (below_step (by repeat (first | (with_reducible first | exact HB.out | apply below_alloc | apply pw_below_drewN | apply below_drew1) | exact HB.out)) hb); have n2_ := Aside0.mk (hbox); have n3_ := Aside0.mk ((by rw [hg]; exact (below_size (by repeat (first | (with_reducible first | exact HB.out | apply below_alloc | apply pw_below_drewN | apply below_drew1) | exact HB.out))) : w.heap.size ≤ gb151)); have n4_ := Aside0.mk ((by rw [hg]; exact (below_size (by repeat (first | (with_reducible first | exact HB.out | apply below_alloc | apply pw_below_drewN | apply below_drew1) | exact HB.out))) : w.heap.size ≤ gb151)); clear HO_6; clear HB; have HO_6 := n0_; have HB := n1_; have BK151 := n2_; have GW151 := n3_; have GE151 := n4_; clear n0_ n1_ n2_ n3_ n4_; clear hb hbox hg; have hcz10_0 : w9.cell? ⟨gb151, 0, none⟩ = some (.int .u64 0) := (blk_cell BK151.out 0).trans rfl; have hcz10_1 : w9.cell? ⟨gb151, 1, none⟩ = some (.int .u64 0) := (blk_cell BK151.out 1).trans rfl; have hcz10_2 : w9.cell? ⟨gb151, 2, none⟩ = some (.string (⟨#[]⟩ : ByteArray)) := (blk_cell BK151.out 2).trans rfl; have hcz10_3 : w9.cell? ⟨gb151, 3, none⟩ = some (.bool false) := (blk_cell BK151.out 3).trans rfl; have hfz10_0 := blk_frozen BK151.out 0; have hfz10_1 := blk_frozen BK151.out 1; have hfz10_2 := blk_frozen BK151.out 2; have hfz10_3 := blk_frozen BK151.out 3; obtain ⟨Ao11, co11, eo11⟩ := Kd.R_slice HO_6.out; subst eo11) | (go_at_call 16; (with_reducible refine (lock_Drop.calls _ _ x6_1 ((rd_T27 l0 x7_1).f0.f0) ((rd_T27 l0 x7_1).f0.f1) t152 _ ?side1 ?side2 A8.out).mono ?_); (case side1 => refine (Kd.R_reads' (e := 40) (base := w.heap.size) (ok := fun k_ => True) (n := x6_1.length) (c := co11) ?_).2.2; exact (by (with_reducible repeat (first | apply Kd.R_alloc | apply Kd.R_drewN | apply Kd.R_drew)); exact (Kd.R_mono (Kd.R_far (p := ⟨gb151, 3, none⟩) (Kd.R_far (p := ⟨gb151, 2, none⟩) (Kd.R_far (p := ⟨gb151, 1, none⟩) (Kd.R_far (p := ⟨gb151, 0, none⟩) (Kd.R_types HO_6.out BK151.out (by decide)) (fun _ hk => hk.2) (.int .u64 ((rd_T27 l0 x7_1).f0.f0))) (fun _ hk => hk.2) (.int .u64 ((rd_T27 l0 x7_1).f0.f1))) (fun _ hk => hk.2) (.string ((rd_T27 l0 x7_1).f1))) (fun _ hk => hk.2) (.bool ((rd_T27 l0 x7_1).f2))) (fun _ h_ => h_.1)))); (case side2 => exact (Kd.R_reads' HO_6.out).2.1); rintro e w12 ⟨v153, rfl, ho0, hb⟩; have n0_ := Aside0.mk (Kd.R_elder' (by (with_reducible repeat (first | apply Kd.R_alloc | apply Kd.R_drewN | apply Kd.R_drew)); exact (Kd.R_mono (Kd.R_far (p := ⟨gb151, 3, none⟩) (Kd.R_far (p := ⟨gb151, 2, none⟩) (Kd.R_far (p := ⟨gb151, 1, none⟩) (Kd.R_far (p := ⟨gb151, 0, none⟩) (Kd.R_types HO_6.out BK151.out (by decide)) (fun _ hk => hk.2) (.int .u64 ((rd_T27 l0 x7_1).f0.f0))) (fun _ hk => hk.2) (.int .u64 ((rd_T27 l0 x7_1).f0.f1))) (fun _ hk => hk.2) (.string ((rd_T27 l0 x7_1).f1))) (fun _ hk => hk.2) (.bool ((rd_T27 l0 x7_1).f2))) (fun _ h_ => h_.1))) (Kd.R_base ho0) hb); have n1_ := Aside0.mk (Kd.R_lower (Kd.R_new' ho0 (Kd.R_lt (by (with_reducible repeat (first | apply Kd.R_alloc | apply Kd.R_drewN | apply Kd.R_drew)); exact (Kd.R_mono (Kd.R_far (p := ⟨gb151, 3, none⟩) (Kd.R_far (p := ⟨gb151, 2, none⟩) (Kd.R_far (p := ⟨gb151, 1, none⟩) (Kd.R_far (p := ⟨gb151, 0, none⟩) (Kd.R_types HO_6.out BK151.out (by decide)) (fun _ hk => hk.2) (.int .u64 ((rd_T27 l0 x7_1).f0.f0))) (fun _ hk => hk.2) (.int .u64 ((rd_T27 l0 x7_1).f0.f1))) (fun _ hk => hk.2) (.string ((rd_T27 l0 x7_1).f1))) (fun _ hk => hk.2) (.bool ((rd_T27 l0 x7_1).f2))) (fun _ h_ => h_.1))))) (below_size (by repeat (first | (with_reducible first | exact HB.out | apply below_alloc | apply pw_below_drewN | apply below_drew1 | refine below_set ?_ GE151.out) | exact HB.out)))); have n2_ := Aside0.mk (blk_below (g := gb151) (o := .cells #[.int .u64 ((rd_T27 l0 x7_1).f0.f0), .int .u64 ((rd_T27 l0 x7_1).f0.f1), .string ((rd_T27 l0 x7_1).f1), .bool ((rd_T27 l0 x7_1).f2)] 27 (0, 0)) (by (with_reducible repeat (first | refine blk_drewN ?_ _ | refine blk_drew ?_ | refine blk_alloc ?_ _)); refine blk_put (cs := #[.int .u64 ((rd_T27 l0 x7_1).f0.f0), .int .u64 ((rd_T27 l0 x7_1).f0.f1), .string ((rd_T27 l0 x7_1).f1), .bool false]) ?_ 3 _ rfl; (with_reducible repeat (first | refine blk_drewN ?_ _ | refine blk_drew ?_ | refine blk_alloc ?_ _)); refine blk_put (cs := #[.int .u64 ((rd_T27 l0 x7_1).f0.f0), .int .u64 ((rd_T27 l0 x7_1).f0.f1), .string (⟨#[]⟩ : ByteArray), .bool false]) ?_ 2 _ rfl; (with_reducible repeat (first | refine blk_drewN ?_ _ | refine blk_drew ?_ | refine blk_alloc ?_ _)); refine blk_put (cs := #[.int .u64 ((rd_T27 l0 x7_1).f0.f0), .int .u64 0, .string (⟨#[]⟩ : ByteArray), .bool false]) ?_ 1 _ rfl; (with_reducible repeat (first | refine blk_drewN ?_ _ | refine blk_drew ?_ | refine blk_alloc ?_ _)); refine blk_put (cs := #[.int .u64 0, .int .u64 0, .string (⟨#[]⟩ : ByteArray), .bool false]) ?_ 0 _ rfl; (with_reducible repeat (first | refine blk_drewN ?_ _ | refine blk_drew ?_ | refine blk_alloc ?_ _)); exact BK151.out) hb); have n3_ := Aside0.mk (below_step (by repeat (first | (with_reducible first | exact HB.out | apply below_alloc | apply pw_below_drewN | apply below_drew1 | refine below_set ?_ GE151.out) | exact HB.out)) hb); clear HO_6; clear BK151; clear HB; have HO_6 := n0_; have HO154 := n1_; have BK151 := n2_; have HB := n3_; clear n0_ n1_ n2_ n3_; (try clear hb); (try clear hb2); (try clear hk); (try clear hi); (try clear ho0))))
            go_roundg k1
            case measure => have := HK1.out; omega
            case rel => exact ⟨(t152), (wrap64 (x7_1 + 1)), (by first | rfl | (simp; done) | (simp [*]; done)), H', ⟨by have := HK1.out; omega⟩, ⟨by (with_reducible repeat (first | apply Kd.R_alloc | apply Kd.R_drewN | apply Kd.R_drew)); exact Kd.R_mono HO154.out (fun _ hk => trivial)⟩, ⟨by repeat (first | (with_reducible first | exact HB.out | apply below_alloc | apply pw_below_drewN | apply below_drew1 | refine below_set ?_ GE151.out) | exact HB.out)⟩⟩
          · rw [if_neg c7] at H
            have c7b0 : (((rd_T27 l0 x7_1).f1).toList == ([] : List UInt8)) = false := beq_eq_false_iff_ne.mpr c7
            have c7b1 : (((rd_T27 l0 x7_1).f1).toList != ([] : List UInt8)) = true := bne_iff_ne.mpr c7
            replace H := Option.bind_eq_some_iff.mp H
            obtain ⟨⟨t155, t158, t161⟩, A130, H⟩ := H
            replace H : (ferrulelaw12_LockRight.l1 k1 l0 l1 t149 t155 x7_1 0) = some r := H
            have A13 := Aside0.mk A130
            clear A130
            have H' := Aside0.mk H
            clear H
            have p150 : 0 ≤ (x7_1 : Int) := of_decide_eq_true (by first | (with_reducible assumption) | assumption)
            have q150 : x7_1 < (l0.length : Int) := of_decide_eq_true (by first | (with_reducible assumption) | assumption)
            obtain ⟨ad150, e150, hx150_0, hx150_1, hx150_2, hx150_3⟩ := at_T27 HR0.out x7_1 p150 q150
            cases e150
            replace hx150_0 := (HB.out.cell (World.block_lt_of_cell? w _ hx150_0)).trans hx150_0
            replace hx150_1 := (HB.out.cell (World.block_lt_of_cell? w _ hx150_1)).trans hx150_1
            replace hx150_2 := (HB.out.cell (World.block_lt_of_cell? w _ hx150_2)).trans hx150_2
            replace hx150_3 := (HB.out.cell (World.block_lt_of_cell? w _ hx150_3)).trans hx150_3
            replace p150 := eq_true p150
            replace q150 := eq_true q150
            go_wp2_with (first | ((with_reducible refine gate_dst (N := 8) rfl ?_); refine box_event ?hg (N := 8) ?hd (cs := #[.int .u64 0, .int .u64 0, .string (⟨#[]⟩ : ByteArray), .bool false]) (t := 27) ?hr ?_; (case hd => rfl); (case hg => rfl); (case hr => first | (go_simp; done) | (go_simp; rfl)); intro gb151 hg w14 hbox hb; have n0_ := Aside0.mk (Kd.R_below (by (with_reducible repeat (first | apply Kd.R_alloc | apply Kd.R_drewN | apply Kd.R_drew)); exact HO_6.out) hb); have n1_ := Aside0.mk (below_step (by repeat (first | (with_reducible first | exact HB.out | apply below_alloc | apply pw_below_drewN | apply below_drew1) | exact HB.out)) hb); have n2_ := Aside0.mk (hbox); have n3_ := Aside0.mk ((by rw [hg]; exact (below_size (by repeat (first | (with_reducible first | exact HB.out | apply below_alloc | apply pw_below_drewN | apply below_drew1) | exact HB.out))) : w.heap.size ≤ gb151)); have n4_ := Aside0.mk ((by rw [hg]; exact (below_size (by repeat (first | (with_reducible first | exact HB.out | apply below_alloc | apply pw_below_drewN | apply below_drew1) | exact HB.out))) : w.heap.size ≤ gb151)); clear HO_6; clear HB; have HO_6 := n0_; have HB := n1_; have BK151 := n2_; have GW151 := n3_; have GE151 := n4_; clear n0_ n1_ n2_ n3_ n4_; clear hb hbox hg; have hcz15_0 : w14.cell? ⟨gb151, 0, none⟩ = some (.int .u64 0) := (blk_cell BK151.out 0).trans rfl; have hcz15_1 : w14.cell? ⟨gb151, 1, none⟩ = some (.int .u64 0) := (blk_cell BK151.out 1).trans rfl; have hcz15_2 : w14.cell? ⟨gb151, 2, none⟩ = some (.string (⟨#[]⟩ : ByteArray)) := (blk_cell BK151.out 2).trans rfl; have hcz15_3 : w14.cell? ⟨gb151, 3, none⟩ = some (.bool false) := (blk_cell BK151.out 3).trans rfl; have hfz15_0 := blk_frozen BK151.out 0; have hfz15_1 := blk_frozen BK151.out 1; have hfz15_2 := blk_frozen BK151.out 2; have hfz15_3 := blk_frozen BK151.out 3; obtain ⟨Ao16, co16, eo16⟩ := Kd.R_slice HO_6.out; subst eo16) | (go_at_call 10; (with_reducible refine (lock_Ask.calls _ _ x6_1 ((rd_T27 l0 x7_1).f0.f0) ((rd_T27 l0 x7_1).f0.f1) ((rd_T27 l0 x7_1).f1) ((rd_T27 l0 x7_1).f2) _ _ l1 t155 t158 t161 _ ?side1 ?side2 ?side3 ?side4 A13.out).mono ?_); (case side1 => refine (Kd.R_reads' (e := 40) (base := w.heap.size) (ok := fun k_ => True) (n := x6_1.length) (c := co16) ?_).2.2; exact (by (with_reducible repeat (first | apply Kd.R_alloc | apply Kd.R_drewN | apply Kd.R_drew)); exact (Kd.R_mono (Kd.R_far (p := ⟨gb151, 3, none⟩) (Kd.R_far (p := ⟨gb151, 2, none⟩) (Kd.R_far (p := ⟨gb151, 1, none⟩) (Kd.R_far (p := ⟨gb151, 0, none⟩) (Kd.R_types HO_6.out BK151.out (by decide)) (fun _ hk => hk.2) (.int .u64 ((rd_T27 l0 x7_1).f0.f0))) (fun _ hk => hk.2) (.int .u64 ((rd_T27 l0 x7_1).f0.f1))) (fun _ hk => hk.2) (.string ((rd_T27 l0 x7_1).f1))) (fun _ hk => hk.2) (.bool ((rd_T27 l0 x7_1).f2))) (fun _ h_ => h_.1)))); (case side2 => exact (Kd.R_reads' HO_6.out).2.1); (case side3 => exact Kd.C_below HR1.out (by repeat (first | (with_reducible first | exact HB.out | apply below_alloc | apply pw_below_drewN | apply below_drew1 | refine below_set ?_ GE151.out) | exact HB.out))); (case side4 => exact HC1.out); rintro e w17 ⟨v156, v159, rfl, ho0, ho1, hb⟩; have n0_ := Aside0.mk (Kd.R_elder' (by (with_reducible repeat (first | apply Kd.R_alloc | apply Kd.R_drewN | apply Kd.R_drew)); exact (Kd.R_mono (Kd.R_far (p := ⟨gb151, 3, none⟩) (Kd.R_far (p := ⟨gb151, 2, none⟩) (Kd.R_far (p := ⟨gb151, 1, none⟩) (Kd.R_far (p := ⟨gb151, 0, none⟩) (Kd.R_types HO_6.out BK151.out (by decide)) (fun _ hk => hk.2) (.int .u64 ((rd_T27 l0 x7_1).f0.f0))) (fun _ hk => hk.2) (.int .u64 ((rd_T27 l0 x7_1).f0.f1))) (fun _ hk => hk.2) (.string ((rd_T27 l0 x7_1).f1))) (fun _ hk => hk.2) (.bool ((rd_T27 l0 x7_1).f2))) (fun _ h_ => h_.1))) (Kd.R_base ho0) hb); have n1_ := Aside0.mk (Kd.R_lower (Kd.R_new' ho0 (Kd.R_lt (by (with_reducible repeat (first | apply Kd.R_alloc | apply Kd.R_drewN | apply Kd.R_drew)); exact (Kd.R_mono (Kd.R_far (p := ⟨gb151, 3, none⟩) (Kd.R_far (p := ⟨gb151, 2, none⟩) (Kd.R_far (p := ⟨gb151, 1, none⟩) (Kd.R_far (p := ⟨gb151, 0, none⟩) (Kd.R_types HO_6.out BK151.out (by decide)) (fun _ hk => hk.2) (.int .u64 ((rd_T27 l0 x7_1).f0.f0))) (fun _ hk => hk.2) (.int .u64 ((rd_T27 l0 x7_1).f0.f1))) (fun _ hk => hk.2) (.string ((rd_T27 l0 x7_1).f1))) (fun _ hk => hk.2) (.bool ((rd_T27 l0 x7_1).f2))) (fun _ h_ => h_.1))))) (below_size (by repeat (first | (with_reducible first | exact HB.out | apply below_alloc | apply pw_below_drewN | apply below_drew1 | refine below_set ?_ GE151.out) | exact HB.out)))); have n2_ := Aside0.mk (Kd.R_lower ho1 (below_size (by repeat (first | (with_reducible first | exact HB.out | apply below_alloc | apply pw_below_drewN | apply below_drew1 | refine below_set ?_ GE151.out) | exact HB.out)))); have n3_ := Aside0.mk (blk_below (g := gb151) (o := .cells #[.int .u64 ((rd_T27 l0 x7_1).f0.f0), .int .u64 ((rd_T27 l0 x7_1).f0.f1), .string ((rd_T27 l0 x7_1).f1), .bool ((rd_T27 l0 x7_1).f2)] 27 (0, 0)) (by (with_reducible repeat (first | refine blk_drewN ?_ _ | refine blk_drew ?_ | refine blk_alloc ?_ _)); refine blk_put (cs := #[.int .u64 ((rd_T27 l0 x7_1).f0.f0), .int .u64 ((rd_T27 l0 x7_1).f0.f1), .string ((rd_T27 l0 x7_1).f1), .bool false]) ?_ 3 _ rfl; (with_reducible repeat (first | refine blk_drewN ?_ _ | refine blk_drew ?_ | refine blk_alloc ?_ _)); refine blk_put (cs := #[.int .u64 ((rd_T27 l0 x7_1).f0.f0), .int .u64 ((rd_T27 l0 x7_1).f0.f1), .string (⟨#[]⟩ : ByteArray), .bool false]) ?_ 2 _ rfl; (with_reducible repeat (first | refine blk_drewN ?_ _ | refine blk_drew ?_ | refine blk_alloc ?_ _)); refine blk_put (cs := #[.int .u64 ((rd_T27 l0 x7_1).f0.f0), .int .u64 0, .string (⟨#[]⟩ : ByteArray), .bool false]) ?_ 1 _ rfl; (with_reducible repeat (first | refine blk_drewN ?_ _ | refine blk_drew ?_ | refine blk_alloc ?_ _)); refine blk_put (cs := #[.int .u64 0, .int .u64 0, .string (⟨#[]⟩ : ByteArray), .bool false]) ?_ 0 _ rfl; (with_reducible repeat (first | refine blk_drewN ?_ _ | refine blk_drew ?_ | refine blk_alloc ?_ _)); exact BK151.out) hb); have n4_ := Aside0.mk (below_step (by repeat (first | (with_reducible first | exact HB.out | apply below_alloc | apply pw_below_drewN | apply below_drew1 | refine below_set ?_ GE151.out) | exact HB.out)) hb); clear HO_6; clear BK151; clear HB; have HO_6 := n0_; have HO157 := n1_; have HO160 := n2_; have BK151 := n3_; have HB := n4_; clear n0_ n1_ n2_ n3_ n4_; (try clear hb); (try clear hb2); (try clear hk); (try clear hi); (try clear ho0); (try clear ho1)))
            repeat (go_quiet (first | ((with_reducible refine gate_dst (N := 8) rfl ?_); refine box_event ?hg (N := 8) ?hd (cs := #[.int .u64 0, .int .u64 0, .string (⟨#[]⟩ : ByteArray), .bool false]) (t := 27) ?hr ?_; (case hd => rfl); (case hg => rfl); (case hr => first | (go_simp; done) | (go_simp; rfl)); intro gb151 hg w14 hbox hb; have n0_ := Aside0.mk (Kd.R_below (by (with_reducible repeat (first | apply Kd.R_alloc | apply Kd.R_drewN | apply Kd.R_drew)); exact HO_6.out) hb); have n1_ := Aside0.mk (below_step (by repeat (first | (with_reducible first | exact HB.out | apply below_alloc | apply pw_below_drewN | apply below_drew1) | exact HB.out)) hb); have n2_ := Aside0.mk (hbox); have n3_ := Aside0.mk ((by rw [hg]; exact (below_size (by repeat (first | (with_reducible first | exact HB.out | apply below_alloc | apply pw_below_drewN | apply below_drew1) | exact HB.out))) : w.heap.size ≤ gb151)); have n4_ := Aside0.mk ((by rw [hg]; exact (below_size (by repeat (first | (with_reducible first | exact HB.out | apply below_alloc | apply pw_below_drewN | apply below_drew1) | exact HB.out))) : w.heap.size ≤ gb151)); clear HO_6; clear HB; have HO_6 := n0_; have HB := n1_; have BK151 := n2_; have GW151 := n3_; have GE151 := n4_; clear n0_ n1_ n2_ n3_ n4_; clear hb hbox hg; have hcz15_0 : w14.cell? ⟨gb151, 0, none⟩ = some (.int .u64 0) := (blk_cell BK151.out 0).trans rfl; have hcz15_1 : w14.cell? ⟨gb151, 1, none⟩ = some (.int .u64 0) := (blk_cell BK151.out 1).trans rfl; have hcz15_2 : w14.cell? ⟨gb151, 2, none⟩ = some (.string (⟨#[]⟩ : ByteArray)) := (blk_cell BK151.out 2).trans rfl; have hcz15_3 : w14.cell? ⟨gb151, 3, none⟩ = some (.bool false) := (blk_cell BK151.out 3).trans rfl; have hfz15_0 := blk_frozen BK151.out 0; have hfz15_1 := blk_frozen BK151.out 1; have hfz15_2 := blk_frozen BK151.out 2; have hfz15_3 := blk_frozen BK151.out 3; obtain ⟨Ao16, co16, eo16⟩ := Kd.R_slice HO_6.out; subst eo16) | (go_at_call 10; (with_reducible refine (lock_Ask.calls _ _ x6_1 ((rd_T27 l0 x7_1).f0.f0) ((rd_T27 l0 x7_1).f0.f1) ((rd_T27 l0 x7_1).f1) ((rd_T27 l0 x7_1).f2) _ _ l1 t155 t158 t161 _ ?side1 ?side2 ?side3 ?side4 A13.out).mono ?_); (case side1 => refine (Kd.R_reads' (e := 40) (base := w.heap.size) (ok := fun k_ => True) (n := x6_1.length) (c := co16) ?_).2.2; exact (by (with_reducible repeat (first | apply Kd.R_alloc | apply Kd.R_drewN | apply Kd.R_drew)); exact (Kd.R_mono (Kd.R_far (p := ⟨gb151, 3, none⟩) (Kd.R_far (p := ⟨gb151, 2, none⟩) (Kd.R_far (p := ⟨gb151, 1, none⟩) (Kd.R_far (p := ⟨gb151, 0, none⟩) (Kd.R_types HO_6.out BK151.out (by decide)) (fun _ hk => hk.2) (.int .u64 ((rd_T27 l0 x7_1).f0.f0))) (fun _ hk => hk.2) (.int .u64 ((rd_T27 l0 x7_1).f0.f1))) (fun _ hk => hk.2) (.string ((rd_T27 l0 x7_1).f1))) (fun _ hk => hk.2) (.bool ((rd_T27 l0 x7_1).f2))) (fun _ h_ => h_.1)))); (case side2 => exact (Kd.R_reads' HO_6.out).2.1); (case side3 => exact Kd.C_below HR1.out (by repeat (first | (with_reducible first | exact HB.out | apply below_alloc | apply pw_below_drewN | apply below_drew1 | refine below_set ?_ GE151.out) | exact HB.out))); (case side4 => exact HC1.out); rintro e w17 ⟨v156, v159, rfl, ho0, ho1, hb⟩; have n0_ := Aside0.mk (Kd.R_elder' (by (with_reducible repeat (first | apply Kd.R_alloc | apply Kd.R_drewN | apply Kd.R_drew)); exact (Kd.R_mono (Kd.R_far (p := ⟨gb151, 3, none⟩) (Kd.R_far (p := ⟨gb151, 2, none⟩) (Kd.R_far (p := ⟨gb151, 1, none⟩) (Kd.R_far (p := ⟨gb151, 0, none⟩) (Kd.R_types HO_6.out BK151.out (by decide)) (fun _ hk => hk.2) (.int .u64 ((rd_T27 l0 x7_1).f0.f0))) (fun _ hk => hk.2) (.int .u64 ((rd_T27 l0 x7_1).f0.f1))) (fun _ hk => hk.2) (.string ((rd_T27 l0 x7_1).f1))) (fun _ hk => hk.2) (.bool ((rd_T27 l0 x7_1).f2))) (fun _ h_ => h_.1))) (Kd.R_base ho0) hb); have n1_ := Aside0.mk (Kd.R_lower (Kd.R_new' ho0 (Kd.R_lt (by (with_reducible repeat (first | apply Kd.R_alloc | apply Kd.R_drewN | apply Kd.R_drew)); exact (Kd.R_mono (Kd.R_far (p := ⟨gb151, 3, none⟩) (Kd.R_far (p := ⟨gb151, 2, none⟩) (Kd.R_far (p := ⟨gb151, 1, none⟩) (Kd.R_far (p := ⟨gb151, 0, none⟩) (Kd.R_types HO_6.out BK151.out (by decide)) (fun _ hk => hk.2) (.int .u64 ((rd_T27 l0 x7_1).f0.f0))) (fun _ hk => hk.2) (.int .u64 ((rd_T27 l0 x7_1).f0.f1))) (fun _ hk => hk.2) (.string ((rd_T27 l0 x7_1).f1))) (fun _ hk => hk.2) (.bool ((rd_T27 l0 x7_1).f2))) (fun _ h_ => h_.1))))) (below_size (by repeat (first | (with_reducible first | exact HB.out | apply below_alloc | apply pw_below_drewN | apply below_drew1 | refine below_set ?_ GE151.out) | exact HB.out)))); have n2_ := Aside0.mk (Kd.R_lower ho1 (below_size (by repeat (first | (with_reducible first | exact HB.out | apply below_alloc | apply pw_below_drewN | apply below_drew1 | refine below_set ?_ GE151.out) | exact HB.out)))); have n3_ := Aside0.mk (blk_below (g := gb151) (o := .cells #[.int .u64 ((rd_T27 l0 x7_1).f0.f0), .int .u64 ((rd_T27 l0 x7_1).f0.f1), .string ((rd_T27 l0 x7_1).f1), .bool ((rd_T27 l0 x7_1).f2)] 27 (0, 0)) (by (with_reducible repeat (first | refine blk_drewN ?_ _ | refine blk_drew ?_ | refine blk_alloc ?_ _)); refine blk_put (cs := #[.int .u64 ((rd_T27 l0 x7_1).f0.f0), .int .u64 ((rd_T27 l0 x7_1).f0.f1), .string ((rd_T27 l0 x7_1).f1), .bool false]) ?_ 3 _ rfl; (with_reducible repeat (first | refine blk_drewN ?_ _ | refine blk_drew ?_ | refine blk_alloc ?_ _)); refine blk_put (cs := #[.int .u64 ((rd_T27 l0 x7_1).f0.f0), .int .u64 ((rd_T27 l0 x7_1).f0.f1), .string (⟨#[]⟩ : ByteArray), .bool false]) ?_ 2 _ rfl; (with_reducible repeat (first | refine blk_drewN ?_ _ | refine blk_drew ?_ | refine blk_alloc ?_ _)); refine blk_put (cs := #[.int .u64 ((rd_T27 l0 x7_1).f0.f0), .int .u64 0, .string (⟨#[]⟩ : ByteArray), .bool false]) ?_ 1 _ rfl; (with_reducible repeat (first | refine blk_drewN ?_ _ | refine blk_drew ?_ | refine blk_alloc ?_ _)); refine blk_put (cs := #[.int .u64 0, .int .u64 0, .string (⟨#[]⟩ : ByteArray), .bool false]) ?_ 0 _ rfl; (with_reducible repeat (first | refine blk_drewN ?_ _ | refine blk_drew ?_ | refine blk_alloc ?_ _)); exact BK151.out) hb); have n4_ := Aside0.mk (below_step (by repeat (first | (with_reducible first | exact HB.out | apply below_alloc | apply pw_below_drewN | apply below_drew1 | refine below_set ?_ GE151.out) | exact HB.out)) hb); clear HO_6; clear BK151; clear HB; have HO_6 := n0_; have HO157 := n1_; have HO160 := n2_; have BK151 := n3_; have HB := n4_; clear n0_ n1_ n2_ n3_ n4_; (try clear hb); (try clear hb2); (try clear hk); (try clear hi); (try clear ho0); (try clear ho1))); try go_wp2_with (first | ((with_reducible refine gate_dst (N := 8) rfl ?_); refine box_event ?hg (N := 8) ?hd (cs := #[.int .u64 0, .int .u64 0, .string (⟨#[]⟩ : ByteArray), .bool false]) (t := 27) ?hr ?_; (case hd => rfl); (case hg => rfl); (case hr => first | (go_simp; done) | (go_simp; rfl)); intro gb151 hg w14 hbox hb; have n0_ := Aside0.mk (Kd.R_below (by (with_reducible repeat (first | apply Kd.R_alloc | apply Kd.R_drewN | apply Kd.R_drew)); exact HO_6.out) hb); have n1_ := Aside0.mk (below_step (by repeat (first | (with_reducible first | exact HB.out | apply below_alloc | apply pw_below_drewN | apply below_drew1) | exact HB.out)) hb); have n2_ := Aside0.mk (hbox); have n3_ := Aside0.mk ((by rw [hg]; exact (below_size (by repeat (first | (with_reducible first | exact HB.out | apply below_alloc | apply pw_below_drewN | apply below_drew1) | exact HB.out))) : w.heap.size ≤ gb151)); have n4_ := Aside0.mk ((by rw [hg]; exact (below_size (by repeat (first | (with_reducible first | exact HB.out | apply below_alloc | apply pw_below_drewN | apply below_drew1) | exact HB.out))) : w.heap.size ≤ gb151)); clear HO_6; clear HB; have HO_6 := n0_; have HB := n1_; have BK151 := n2_; have GW151 := n3_; have GE151 := n4_; clear n0_ n1_ n2_ n3_ n4_; clear hb hbox hg; have hcz15_0 : w14.cell? ⟨gb151, 0, none⟩ = some (.int .u64 0) := (blk_cell BK151.out 0).trans rfl; have hcz15_1 : w14.cell? ⟨gb151, 1, none⟩ = some (.int .u64 0) := (blk_cell BK151.out 1).trans rfl; have hcz15_2 : w14.cell? ⟨gb151, 2, none⟩ = some (.string (⟨#[]⟩ : ByteArray)) := (blk_cell BK151.out 2).trans rfl; have hcz15_3 : w14.cell? ⟨gb151, 3, none⟩ = some (.bool false) := (blk_cell BK151.out 3).trans rfl; have hfz15_0 := blk_frozen BK151.out 0; have hfz15_1 := blk_frozen BK151.out 1; have hfz15_2 := blk_frozen BK151.out 2; have hfz15_3 := blk_frozen BK151.out 3; obtain ⟨Ao16, co16, eo16⟩ := Kd.R_slice HO_6.out; subst eo16) | (go_at_call 10; (with_reducible refine (lock_Ask.calls _ _ x6_1 ((rd_T27 l0 x7_1).f0.f0) ((rd_T27 l0 x7_1).f0.f1) ((rd_T27 l0 x7_1).f1) ((rd_T27 l0 x7_1).f2) _ _ l1 t155 t158 t161 _ ?side1 ?side2 ?side3 ?side4 A13.out).mono ?_); (case side1 => refine (Kd.R_reads' (e := 40) (base := w.heap.size) (ok := fun k_ => True) (n := x6_1.length) (c := co16) ?_).2.2; exact (by (with_reducible repeat (first | apply Kd.R_alloc | apply Kd.R_drewN | apply Kd.R_drew)); exact (Kd.R_mono (Kd.R_far (p := ⟨gb151, 3, none⟩) (Kd.R_far (p := ⟨gb151, 2, none⟩) (Kd.R_far (p := ⟨gb151, 1, none⟩) (Kd.R_far (p := ⟨gb151, 0, none⟩) (Kd.R_types HO_6.out BK151.out (by decide)) (fun _ hk => hk.2) (.int .u64 ((rd_T27 l0 x7_1).f0.f0))) (fun _ hk => hk.2) (.int .u64 ((rd_T27 l0 x7_1).f0.f1))) (fun _ hk => hk.2) (.string ((rd_T27 l0 x7_1).f1))) (fun _ hk => hk.2) (.bool ((rd_T27 l0 x7_1).f2))) (fun _ h_ => h_.1)))); (case side2 => exact (Kd.R_reads' HO_6.out).2.1); (case side3 => exact Kd.C_below HR1.out (by repeat (first | (with_reducible first | exact HB.out | apply below_alloc | apply pw_below_drewN | apply below_drew1 | refine below_set ?_ GE151.out) | exact HB.out))); (case side4 => exact HC1.out); rintro e w17 ⟨v156, v159, rfl, ho0, ho1, hb⟩; have n0_ := Aside0.mk (Kd.R_elder' (by (with_reducible repeat (first | apply Kd.R_alloc | apply Kd.R_drewN | apply Kd.R_drew)); exact (Kd.R_mono (Kd.R_far (p := ⟨gb151, 3, none⟩) (Kd.R_far (p := ⟨gb151, 2, none⟩) (Kd.R_far (p := ⟨gb151, 1, none⟩) (Kd.R_far (p := ⟨gb151, 0, none⟩) (Kd.R_types HO_6.out BK151.out (by decide)) (fun _ hk => hk.2) (.int .u64 ((rd_T27 l0 x7_1).f0.f0))) (fun _ hk => hk.2) (.int .u64 ((rd_T27 l0 x7_1).f0.f1))) (fun _ hk => hk.2) (.string ((rd_T27 l0 x7_1).f1))) (fun _ hk => hk.2) (.bool ((rd_T27 l0 x7_1).f2))) (fun _ h_ => h_.1))) (Kd.R_base ho0) hb); have n1_ := Aside0.mk (Kd.R_lower (Kd.R_new' ho0 (Kd.R_lt (by (with_reducible repeat (first | apply Kd.R_alloc | apply Kd.R_drewN | apply Kd.R_drew)); exact (Kd.R_mono (Kd.R_far (p := ⟨gb151, 3, none⟩) (Kd.R_far (p := ⟨gb151, 2, none⟩) (Kd.R_far (p := ⟨gb151, 1, none⟩) (Kd.R_far (p := ⟨gb151, 0, none⟩) (Kd.R_types HO_6.out BK151.out (by decide)) (fun _ hk => hk.2) (.int .u64 ((rd_T27 l0 x7_1).f0.f0))) (fun _ hk => hk.2) (.int .u64 ((rd_T27 l0 x7_1).f0.f1))) (fun _ hk => hk.2) (.string ((rd_T27 l0 x7_1).f1))) (fun _ hk => hk.2) (.bool ((rd_T27 l0 x7_1).f2))) (fun _ h_ => h_.1))))) (below_size (by repeat (first | (with_reducible first | exact HB.out | apply below_alloc | apply pw_below_drewN | apply below_drew1 | refine below_set ?_ GE151.out) | exact HB.out)))); have n2_ := Aside0.mk (Kd.R_lower ho1 (below_size (by repeat (first | (with_reducible first | exact HB.out | apply below_alloc | apply pw_below_drewN | apply below_drew1 | refine below_set ?_ GE151.out) | exact HB.out)))); have n3_ := Aside0.mk (blk_below (g := gb151) (o := .cells #[.int .u64 ((rd_T27 l0 x7_1).f0.f0), .int .u64 ((rd_T27 l0 x7_1).f0.f1), .string ((rd_T27 l0 x7_1).f1), .bool ((rd_T27 l0 x7_1).f2)] 27 (0, 0)) (by (with_reducible repeat (first | refine blk_drewN ?_ _ | refine blk_drew ?_ | refine blk_alloc ?_ _)); refine blk_put (cs := #[.int .u64 ((rd_T27 l0 x7_1).f0.f0), .int .u64 ((rd_T27 l0 x7_1).f0.f1), .string ((rd_T27 l0 x7_1).f1), .bool false]) ?_ 3 _ rfl; (with_reducible repeat (first | refine blk_drewN ?_ _ | refine blk_drew ?_ | refine blk_alloc ?_ _)); refine blk_put (cs := #[.int .u64 ((rd_T27 l0 x7_1).f0.f0), .int .u64 ((rd_T27 l0 x7_1).f0.f1), .string (⟨#[]⟩ : ByteArray), .bool false]) ?_ 2 _ rfl; (with_reducible repeat (first | refine blk_drewN ?_ _ | refine blk_drew ?_ | refine blk_alloc ?_ _)); refine blk_put (cs := #[.int .u64 ((rd_T27 l0 x7_1).f0.f0), .int .u64 0, .string (⟨#[]⟩ : ByteArray), .bool false]) ?_ 1 _ rfl; (with_reducible repeat (first | refine blk_drewN ?_ _ | refine blk_drew ?_ | refine blk_alloc ?_ _)); refine blk_put (cs := #[.int .u64 0, .int .u64 0, .string (⟨#[]⟩ : ByteArray), .bool false]) ?_ 0 _ rfl; (with_reducible repeat (first | refine blk_drewN ?_ _ | refine blk_drew ?_ | refine blk_alloc ?_ _)); exact BK151.out) hb); have n4_ := Aside0.mk (below_step (by repeat (first | (with_reducible first | exact HB.out | apply below_alloc | apply pw_below_drewN | apply below_drew1 | refine below_set ?_ GE151.out) | exact HB.out)) hb); clear HO_6; clear BK151; clear HB; have HO_6 := n0_; have HO157 := n1_; have HO160 := n2_; have BK151 := n3_; have HB := n4_; clear n0_ n1_ n2_ n3_ n4_; (try clear hb); (try clear hb2); (try clear hk); (try clear hi); (try clear ho0); (try clear ho1))))
            go_loopg [12] k1 (fun kq v12 w' => ∃ (x12_2 : Int), v12 = .int .i64 x12_2 ∧ Aside0 (ferrulelaw12_LockRight.l1 kq l0 l1 t149 t155 x7_1 x12_2 = some r) ∧ Aside0 (kq ≤ k1) ∧ Aside0 (Kd.R k40 40 w' w.heap.size (fun _ => True) v156 t155) ∧ Aside0 (w'.heap[gb151]? = some (.cells #[.int .u64 ((rd_T27 l0 x7_1).f0.f0), .int .u64 ((rd_T27 l0 x7_1).f0.f1), .string ((rd_T27 l0 x7_1).f1), .bool ((rd_T27 l0 x7_1).f2)] 27 (0, 0))) ∧ Aside0 (Below w.heap.size w w'))
            case atStart => exact ⟨(0), (by first | rfl | (simp; done) | (simp [*]; done)), H', ⟨Nat.le_refl _⟩, ⟨by (with_reducible repeat (first | apply Kd.R_alloc | apply Kd.R_drewN | apply Kd.R_drew)); exact Kd.R_mono HO157.out (fun _ hk => trivial)⟩, ⟨by (with_reducible repeat (first | refine blk_drewN ?_ _ | refine blk_drew ?_ | refine blk_alloc ?_ _)); exact BK151.out⟩, ⟨by repeat (first | (with_reducible first | exact HB.out | apply below_alloc | apply pw_below_drewN | apply below_drew1 | refine below_set ?_ GE151.out) | exact HB.out)⟩⟩
            case round =>
              clear H'
              try clear c1
              try clear p1
              try clear q1
              try clear hx1
              try clear p2
              try clear c5
              try clear c5b0
              try clear c6
              try clear c6b0
              try clear p6
              try clear c7
              try clear c7b0
              try clear c7b1
              try clear p15
              try clear q15
              try clear hx15
              try clear hcz10_0
              try clear hcz10_1
              try clear hcz10_2
              try clear hcz10_3
              try clear hcz15_0
              try clear hcz15_1
              try clear hcz15_2
              try clear hcz15_3
              try clear hfz10_0
              try clear hfz10_1
              try clear hfz10_2
              try clear hfz10_3
              try clear hfz15_0
              try clear hfz15_1
              try clear hfz15_2
              try clear hfz15_3
              try clear hx150_0
              try clear hx150_1
              try clear hx150_2
              try clear hx150_3
              try clear p150
              try clear p2
              try clear q150
              obtain ⟨x12_2, rfl, HA, HK2, HO_6, BK151, HB⟩ := hrel
              cases gk with
              | zero => exact absurd HA.out (by simp [ferrulelaw12_LockRight.l1])
              | succ k2 =>
                have H := HA.out
                clear HA
                simp only [ferrulelaw12_LockRight.l1] at H
                by_cases c18 : x12_2 < (t155.length : Int)
                · rw [if_pos c18] at H
                  have c18b0 : decide (x12_2 < (t155.length : Int)) = true := decide_eq_true c18
                  clear c18
                  have H' := Aside0.mk H
                  clear H
                  obtain ⟨Ao19, co19, eo19⟩ := Kd.R_slice HO_6.out
                  subst eo19
                  go_wp2
                  repeat (go_quiet (fail); try go_wp2)
                  go_loopg [13] k2 (fun kq v13 w' => ∃ (x13_3 : Int), v13 = .int .i64 x13_3 ∧ Aside0 (ferrulelaw12_LockRight.l2 kq l0 l1 t149 t155 x7_1 x12_2 x13_3 = some r) ∧ Aside0 (kq ≤ k2) ∧ Aside0 (Kd.R k40 40 w' w.heap.size (fun _ => True) (.slice Ao19 t155.length co19) t155) ∧ Aside0 (w'.heap[gb151]? = some (.cells #[.int .u64 ((rd_T27 l0 x7_1).f0.f0), .int .u64 ((rd_T27 l0 x7_1).f0.f1), .string ((rd_T27 l0 x7_1).f1), .bool ((rd_T27 l0 x7_1).f2)] 27 (0, 0))) ∧ Aside0 (Below w.heap.size w w'))
                  case atStart => exact ⟨(0), (by first | rfl | (simp; done) | (simp [*]; done)), H', ⟨Nat.le_refl _⟩, ⟨by (with_reducible repeat (first | apply Kd.R_alloc | apply Kd.R_drewN | apply Kd.R_drew)); exact HO_6.out⟩, ⟨by (with_reducible repeat (first | refine blk_drewN ?_ _ | refine blk_drew ?_ | refine blk_alloc ?_ _)); exact BK151.out⟩, ⟨by repeat (first | (with_reducible first | exact HB.out | apply below_alloc | apply pw_below_drewN | apply below_drew1 | refine below_set ?_ GE151.out) | exact HB.out)⟩⟩
                  case round =>
                    clear H'
                    try clear c1
                    try clear p1
                    try clear q1
                    try clear hx1
                    try clear p2
                    try clear c5
                    try clear c5b0
                    try clear c6
                    try clear c6b0
                    try clear p6
                    try clear c7
                    try clear c7b0
                    try clear c7b1
                    try clear p15
                    try clear q15
                    try clear hx15
                    try clear c18
                    try clear c18b0
                    try clear hcz10_0
                    try clear hcz10_1
                    try clear hcz10_2
                    try clear hcz10_3
                    try clear hcz15_0
                    try clear hcz15_1
                    try clear hcz15_2
                    try clear hcz15_3
                    try clear hfz10_0
                    try clear hfz10_1
                    try clear hfz10_2
                    try clear hfz10_3
                    try clear hfz15_0
                    try clear hfz15_1
                    try clear hfz15_2
                    try clear hfz15_3
                    try clear hx150_0
                    try clear hx150_1
                    try clear hx150_2
                    try clear hx150_3
                    try clear p1
                    try clear p15
                    try clear p150
                    try clear p2
                    try clear p6
                    try clear q1
                    try clear q15
                    try clear q150
                    obtain ⟨x13_3, rfl, HA, HK3, HO_6, BK151, HB⟩ := hrel
                    cases gk with
                    | zero => exact absurd HA.out (by simp [ferrulelaw12_LockRight.l2])
                    | succ k3 =>
                      have H := HA.out
                      clear HA
                      simp only [ferrulelaw12_LockRight.l2] at H
                      by_cases c20 : x13_3 < x12_2
                      · rw [if_pos c20] at H
                        have c20b0 : decide (x13_3 < x12_2) = true := decide_eq_true c20
                        clear c20
                        by_cases c21 : 0 ≤ x12_2
                        · rw [if_pos c21] at H
                          have c21b0 : decide (0 ≤ x12_2) = true := decide_eq_true c21
                          clear c21
                          by_cases c22 : x12_2 < (t155.length : Int)
                          · rw [if_pos c22] at H
                            have c22b0 : decide (x12_2 < (t155.length : Int)) = true := decide_eq_true c22
                            clear c22
                            by_cases c23 : 0 ≤ x13_3
                            · rw [if_pos c23] at H
                              have c23b0 : decide (0 ≤ x13_3) = true := decide_eq_true c23
                              clear c23
                              by_cases c24 : x13_3 < (t155.length : Int)
                              · rw [if_pos c24] at H
                                have c24b0 : decide (x13_3 < (t155.length : Int)) = true := decide_eq_true c24
                                clear c24
                                by_cases c25 : ((rd_T40 t155 x12_2).f0).toList = ((rd_T40 t155 x13_3).f0).toList
                                · rw [if_pos c25] at H
                                  have c25b0 : (((rd_T40 t155 x12_2).f0).toList == ((rd_T40 t155 x13_3).f0).toList) = true := beq_iff_eq.mpr c25
                                  have c25b1 : (((rd_T40 t155 x12_2).f0).toList != ((rd_T40 t155 x13_3).f0).toList) = false := bne_eq_false_iff_eq.mpr c25
                                  clear c25
                                  by_cases c26 : (((rd_T40 t155 x12_2).f1.f0) == ((rd_T40 t155 x13_3).f1.f0) && (((rd_T40 t155 x12_2).f1.f1) == ((rd_T40 t155 x13_3).f1.f1))) = true
                                  · rw [if_pos c26] at H
                                    have c26b0 : (((rd_T40 t155 x12_2).f1.f0) == ((rd_T40 t155 x13_3).f1.f0) && (((rd_T40 t155 x12_2).f1.f1) == ((rd_T40 t155 x13_3).f1.f1))) = true := c26
                                    (try (have c26b1 : decide (((rd_T40 t155 x12_2).f1.f0) = ((rd_T40 t155 x13_3).f1.f0) && (((rd_T40 t155 x12_2).f1.f1) == ((rd_T40 t155 x13_3).f1.f1))) = true := by simpa using c26))
                                    (try (have c26b2 : (((rd_T40 t155 x12_2).f1.f0) == ((rd_T40 t155 x13_3).f1.f0) && (((rd_T40 t155 x12_2).f1.f1) == ((rd_T40 t155 x13_3).f1.f1))) = true := by simpa using c26))
                                    clear c26
                                    obtain rfl := Option.some.inj H
                                    have p162 : 0 ≤ (x12_2 : Int) := of_decide_eq_true (by first | (with_reducible assumption) | assumption)
                                    have q162 : x12_2 < (t155.length : Int) := of_decide_eq_true (by first | (with_reducible assumption) | assumption)
                                    obtain ⟨ad162, e162, hx162_0, hx162_1, hx162_2, hx162_3⟩ := at_T40 (Kd.R_reads' HO_6.out).2.2 x12_2 p162 q162
                                    cases e162
                                    replace p162 := eq_true p162
                                    replace q162 := eq_true q162
                                    have p163 : 0 ≤ (x13_3 : Int) := of_decide_eq_true (by first | (with_reducible assumption) | assumption)
                                    have q163 : x13_3 < (t155.length : Int) := of_decide_eq_true (by first | (with_reducible assumption) | assumption)
                                    obtain ⟨ad163, e163, hx163_0, hx163_1, hx163_2, hx163_3⟩ := at_T40 (Kd.R_reads' HO_6.out).2.2 x13_3 p163 q163
                                    obtain rfl : ad162 = ad163 := (by injection e163)
                                    replace p163 := eq_true p163
                                    replace q163 := eq_true q163
                                    have p164 : 0 ≤ (x12_2 : Int) := of_decide_eq_true (by first | (with_reducible assumption) | assumption)
                                    have q164 : x12_2 < (t155.length : Int) := of_decide_eq_true (by first | (with_reducible assumption) | assumption)
                                    obtain ⟨ad164, e164, hx164_0, hx164_1, hx164_2, hx164_3⟩ := at_T40 (Kd.R_reads' HO_6.out).2.2 x12_2 p164 q164
                                    obtain rfl : ad162 = ad164 := (by injection e164)
                                    replace p164 := eq_true p164
                                    replace q164 := eq_true q164
                                    have p165 : 0 ≤ (x13_3 : Int) := of_decide_eq_true (by first | (with_reducible assumption) | assumption)
                                    have q165 : x13_3 < (t155.length : Int) := of_decide_eq_true (by first | (with_reducible assumption) | assumption)
                                    obtain ⟨ad165, e165, hx165_0, hx165_1, hx165_2, hx165_3⟩ := at_T40 (Kd.R_reads' HO_6.out).2.2 x13_3 p165 q165
                                    obtain rfl : ad162 = ad165 := (by injection e165)
                                    replace p165 := eq_true p165
                                    replace q165 := eq_true q165
                                    go_wp2
                                    repeat (go_quiet (fail); try go_wp2)
                                    go_ret
                                    exact ⟨by first | rfl | (simp [errW_none, errW_some] <;> rfl) | (simp [*, errW_none, errW_some] <;> rfl), by repeat (first | (with_reducible first | exact HB.out | apply below_alloc | apply pw_below_drewN | apply below_drew1 | refine below_set ?_ GE151.out) | exact HB.out)⟩
                                  · rw [if_neg c26] at H
                                    have c26b0 : (((rd_T40 t155 x12_2).f1.f0) == ((rd_T40 t155 x13_3).f1.f0) && (((rd_T40 t155 x12_2).f1.f1) == ((rd_T40 t155 x13_3).f1.f1))) = false := by simpa using c26
                                    (try (have c26b1 : decide (((rd_T40 t155 x12_2).f1.f0) = ((rd_T40 t155 x13_3).f1.f0) && (((rd_T40 t155 x12_2).f1.f1) == ((rd_T40 t155 x13_3).f1.f1))) = false := by simpa using c26))
                                    (try (have c26b2 : (((rd_T40 t155 x12_2).f1.f0) == ((rd_T40 t155 x13_3).f1.f0) && (((rd_T40 t155 x12_2).f1.f1) == ((rd_T40 t155 x13_3).f1.f1))) = false := by simpa using c26))
                                    (try (have c26b3 : ¬ (((rd_T40 t155 x12_2).f1.f0) = ((rd_T40 t155 x13_3).f1.f0) && (((rd_T40 t155 x12_2).f1.f1) == ((rd_T40 t155 x13_3).f1.f1))) := by simpa using c26))
                                    clear c26
                                    obtain ⟨bq27, hbq27⟩ : ∃ b_ : Bool, b_ = ((rd_T40 t155 x12_2).f2) := ⟨_, rfl⟩
                                    replace H : (if bq27 = true then (some false) else (if (rd_T40 t155 x13_3).f2 = true then (some false) else (ferrulelaw12_LockRight.l2 k3 l0 l1 t149 t155 x7_1 x12_2 (wrap64 (x13_3 + 1))))) = some r := by rw [← hbq27] at H; exact H
                                    have Nbq27 := Aside0.mk hbq27
                                    clear hbq27
                                    by_cases c28 : bq27 = true
                                    · subst c28
                                      have H1 : (some false) = some r := by rw [if_pos rfl] at H; exact H
                                      clear H
                                      have H := H1
                                      clear H1
                                      obtain rfl := Option.some.inj H
                                      have p162 : 0 ≤ (x12_2 : Int) := of_decide_eq_true (by first | (with_reducible assumption) | assumption)
                                      have q162 : x12_2 < (t155.length : Int) := of_decide_eq_true (by first | (with_reducible assumption) | assumption)
                                      obtain ⟨ad162, e162, hx162_0, hx162_1, hx162_2, hx162_3⟩ := at_T40 (Kd.R_reads' HO_6.out).2.2 x12_2 p162 q162
                                      (try rw [← Nbq27.out] at hx162_3)
                                      cases e162
                                      replace p162 := eq_true p162
                                      replace q162 := eq_true q162
                                      have p163 : 0 ≤ (x13_3 : Int) := of_decide_eq_true (by first | (with_reducible assumption) | assumption)
                                      have q163 : x13_3 < (t155.length : Int) := of_decide_eq_true (by first | (with_reducible assumption) | assumption)
                                      obtain ⟨ad163, e163, hx163_0, hx163_1, hx163_2, hx163_3⟩ := at_T40 (Kd.R_reads' HO_6.out).2.2 x13_3 p163 q163
                                      (try rw [← Nbq27.out] at hx163_3)
                                      obtain rfl : ad162 = ad163 := (by injection e163)
                                      replace p163 := eq_true p163
                                      replace q163 := eq_true q163
                                      have p164 : 0 ≤ (x12_2 : Int) := of_decide_eq_true (by first | (with_reducible assumption) | assumption)
                                      have q164 : x12_2 < (t155.length : Int) := of_decide_eq_true (by first | (with_reducible assumption) | assumption)
                                      obtain ⟨ad164, e164, hx164_0, hx164_1, hx164_2, hx164_3⟩ := at_T40 (Kd.R_reads' HO_6.out).2.2 x12_2 p164 q164
                                      (try rw [← Nbq27.out] at hx164_3)
                                      obtain rfl : ad162 = ad164 := (by injection e164)
                                      replace p164 := eq_true p164
                                      replace q164 := eq_true q164
                                      have p165 : 0 ≤ (x13_3 : Int) := of_decide_eq_true (by first | (with_reducible assumption) | assumption)
                                      have q165 : x13_3 < (t155.length : Int) := of_decide_eq_true (by first | (with_reducible assumption) | assumption)
                                      obtain ⟨ad165, e165, hx165_0, hx165_1, hx165_2, hx165_3⟩ := at_T40 (Kd.R_reads' HO_6.out).2.2 x13_3 p165 q165
                                      (try rw [← Nbq27.out] at hx165_3)
                                      obtain rfl : ad162 = ad165 := (by injection e165)
                                      replace p165 := eq_true p165
                                      replace q165 := eq_true q165
                                      have p166 : 0 ≤ (x12_2 : Int) := of_decide_eq_true (by first | (with_reducible assumption) | assumption)
                                      have q166 : x12_2 < (t155.length : Int) := of_decide_eq_true (by first | (with_reducible assumption) | assumption)
                                      obtain ⟨ad166, e166, hx166_0, hx166_1, hx166_2, hx166_3⟩ := at_T40 (Kd.R_reads' HO_6.out).2.2 x12_2 p166 q166
                                      (try rw [← Nbq27.out] at hx166_3)
                                      obtain rfl : ad162 = ad166 := (by injection e166)
                                      replace p166 := eq_true p166
                                      replace q166 := eq_true q166
                                      go_wp2
                                      repeat (go_quiet (fail); try go_wp2)
                                      go_ret
                                      exact ⟨by first | rfl | (simp [errW_none, errW_some] <;> rfl) | (simp [*, errW_none, errW_some] <;> rfl), by repeat (first | (with_reducible first | exact HB.out | apply below_alloc | apply pw_below_drewN | apply below_drew1 | refine below_set ?_ GE151.out) | exact HB.out)⟩
                                    · replace c28 := Bool.eq_false_iff.mpr c28
                                      subst c28
                                      have H1 : (if (rd_T40 t155 x13_3).f2 = true then (some false) else (ferrulelaw12_LockRight.l2 k3 l0 l1 t149 t155 x7_1 x12_2 (wrap64 (x13_3 + 1)))) = some r := by rw [if_neg (show ¬ (false = true) by decide)] at H; exact H
                                      clear H
                                      have H := H1
                                      clear H1
                                      obtain ⟨bq29, hbq29⟩ : ∃ b_ : Bool, b_ = ((rd_T40 t155 x13_3).f2) := ⟨_, rfl⟩
                                      replace H : (if bq29 = true then (some false) else (ferrulelaw12_LockRight.l2 k3 l0 l1 t149 t155 x7_1 x12_2 (wrap64 (x13_3 + 1)))) = some r := by rw [← hbq29] at H; exact H
                                      have Nbq29 := Aside0.mk hbq29
                                      clear hbq29
                                      by_cases c30 : bq29 = true
                                      · subst c30
                                        have H1 : (some false) = some r := by rw [if_pos rfl] at H; exact H
                                        clear H
                                        have H := H1
                                        clear H1
                                        obtain rfl := Option.some.inj H
                                        have p162 : 0 ≤ (x12_2 : Int) := of_decide_eq_true (by first | (with_reducible assumption) | assumption)
                                        have q162 : x12_2 < (t155.length : Int) := of_decide_eq_true (by first | (with_reducible assumption) | assumption)
                                        obtain ⟨ad162, e162, hx162_0, hx162_1, hx162_2, hx162_3⟩ := at_T40 (Kd.R_reads' HO_6.out).2.2 x12_2 p162 q162
                                        (try rw [← Nbq27.out] at hx162_3)
                                        (try rw [← Nbq29.out] at hx162_3)
                                        cases e162
                                        replace p162 := eq_true p162
                                        replace q162 := eq_true q162
                                        have p163 : 0 ≤ (x13_3 : Int) := of_decide_eq_true (by first | (with_reducible assumption) | assumption)
                                        have q163 : x13_3 < (t155.length : Int) := of_decide_eq_true (by first | (with_reducible assumption) | assumption)
                                        obtain ⟨ad163, e163, hx163_0, hx163_1, hx163_2, hx163_3⟩ := at_T40 (Kd.R_reads' HO_6.out).2.2 x13_3 p163 q163
                                        (try rw [← Nbq27.out] at hx163_3)
                                        (try rw [← Nbq29.out] at hx163_3)
                                        obtain rfl : ad162 = ad163 := (by injection e163)
                                        replace p163 := eq_true p163
                                        replace q163 := eq_true q163
                                        have p164 : 0 ≤ (x12_2 : Int) := of_decide_eq_true (by first | (with_reducible assumption) | assumption)
                                        have q164 : x12_2 < (t155.length : Int) := of_decide_eq_true (by first | (with_reducible assumption) | assumption)
                                        obtain ⟨ad164, e164, hx164_0, hx164_1, hx164_2, hx164_3⟩ := at_T40 (Kd.R_reads' HO_6.out).2.2 x12_2 p164 q164
                                        (try rw [← Nbq27.out] at hx164_3)
                                        (try rw [← Nbq29.out] at hx164_3)
                                        obtain rfl : ad162 = ad164 := (by injection e164)
                                        replace p164 := eq_true p164
                                        replace q164 := eq_true q164
                                        have p165 : 0 ≤ (x13_3 : Int) := of_decide_eq_true (by first | (with_reducible assumption) | assumption)
                                        have q165 : x13_3 < (t155.length : Int) := of_decide_eq_true (by first | (with_reducible assumption) | assumption)
                                        obtain ⟨ad165, e165, hx165_0, hx165_1, hx165_2, hx165_3⟩ := at_T40 (Kd.R_reads' HO_6.out).2.2 x13_3 p165 q165
                                        (try rw [← Nbq27.out] at hx165_3)
                                        (try rw [← Nbq29.out] at hx165_3)
                                        obtain rfl : ad162 = ad165 := (by injection e165)
                                        replace p165 := eq_true p165
                                        replace q165 := eq_true q165
                                        have p166 : 0 ≤ (x12_2 : Int) := of_decide_eq_true (by first | (with_reducible assumption) | assumption)
                                        have q166 : x12_2 < (t155.length : Int) := of_decide_eq_true (by first | (with_reducible assumption) | assumption)
                                        obtain ⟨ad166, e166, hx166_0, hx166_1, hx166_2, hx166_3⟩ := at_T40 (Kd.R_reads' HO_6.out).2.2 x12_2 p166 q166
                                        (try rw [← Nbq27.out] at hx166_3)
                                        (try rw [← Nbq29.out] at hx166_3)
                                        obtain rfl : ad162 = ad166 := (by injection e166)
                                        replace p166 := eq_true p166
                                        replace q166 := eq_true q166
                                        have p167 : 0 ≤ (x13_3 : Int) := of_decide_eq_true (by first | (with_reducible assumption) | assumption)
                                        have q167 : x13_3 < (t155.length : Int) := of_decide_eq_true (by first | (with_reducible assumption) | assumption)
                                        obtain ⟨ad167, e167, hx167_0, hx167_1, hx167_2, hx167_3⟩ := at_T40 (Kd.R_reads' HO_6.out).2.2 x13_3 p167 q167
                                        (try rw [← Nbq27.out] at hx167_3)
                                        (try rw [← Nbq29.out] at hx167_3)
                                        obtain rfl : ad162 = ad167 := (by injection e167)
                                        replace p167 := eq_true p167
                                        replace q167 := eq_true q167
                                        go_wp2
                                        repeat (go_quiet (fail); try go_wp2)
                                        go_ret
                                        exact ⟨by first | rfl | (simp [errW_none, errW_some] <;> rfl) | (simp [*, errW_none, errW_some] <;> rfl), by repeat (first | (with_reducible first | exact HB.out | apply below_alloc | apply pw_below_drewN | apply below_drew1 | refine below_set ?_ GE151.out) | exact HB.out)⟩
                                      · replace c30 := Bool.eq_false_iff.mpr c30
                                        subst c30
                                        have H1 : (ferrulelaw12_LockRight.l2 k3 l0 l1 t149 t155 x7_1 x12_2 (wrap64 (x13_3 + 1))) = some r := by rw [if_neg (show ¬ (false = true) by decide)] at H; exact H
                                        clear H
                                        have H := H1
                                        clear H1
                                        have H' := Aside0.mk H
                                        clear H
                                        have p162 : 0 ≤ (x12_2 : Int) := of_decide_eq_true (by first | (with_reducible assumption) | assumption)
                                        have q162 : x12_2 < (t155.length : Int) := of_decide_eq_true (by first | (with_reducible assumption) | assumption)
                                        obtain ⟨ad162, e162, hx162_0, hx162_1, hx162_2, hx162_3⟩ := at_T40 (Kd.R_reads' HO_6.out).2.2 x12_2 p162 q162
                                        (try rw [← Nbq27.out] at hx162_3)
                                        (try rw [← Nbq29.out] at hx162_3)
                                        cases e162
                                        replace p162 := eq_true p162
                                        replace q162 := eq_true q162
                                        have p163 : 0 ≤ (x13_3 : Int) := of_decide_eq_true (by first | (with_reducible assumption) | assumption)
                                        have q163 : x13_3 < (t155.length : Int) := of_decide_eq_true (by first | (with_reducible assumption) | assumption)
                                        obtain ⟨ad163, e163, hx163_0, hx163_1, hx163_2, hx163_3⟩ := at_T40 (Kd.R_reads' HO_6.out).2.2 x13_3 p163 q163
                                        (try rw [← Nbq27.out] at hx163_3)
                                        (try rw [← Nbq29.out] at hx163_3)
                                        obtain rfl : ad162 = ad163 := (by injection e163)
                                        replace p163 := eq_true p163
                                        replace q163 := eq_true q163
                                        have p164 : 0 ≤ (x12_2 : Int) := of_decide_eq_true (by first | (with_reducible assumption) | assumption)
                                        have q164 : x12_2 < (t155.length : Int) := of_decide_eq_true (by first | (with_reducible assumption) | assumption)
                                        obtain ⟨ad164, e164, hx164_0, hx164_1, hx164_2, hx164_3⟩ := at_T40 (Kd.R_reads' HO_6.out).2.2 x12_2 p164 q164
                                        (try rw [← Nbq27.out] at hx164_3)
                                        (try rw [← Nbq29.out] at hx164_3)
                                        obtain rfl : ad162 = ad164 := (by injection e164)
                                        replace p164 := eq_true p164
                                        replace q164 := eq_true q164
                                        have p165 : 0 ≤ (x13_3 : Int) := of_decide_eq_true (by first | (with_reducible assumption) | assumption)
                                        have q165 : x13_3 < (t155.length : Int) := of_decide_eq_true (by first | (with_reducible assumption) | assumption)
                                        obtain ⟨ad165, e165, hx165_0, hx165_1, hx165_2, hx165_3⟩ := at_T40 (Kd.R_reads' HO_6.out).2.2 x13_3 p165 q165
                                        (try rw [← Nbq27.out] at hx165_3)
                                        (try rw [← Nbq29.out] at hx165_3)
                                        obtain rfl : ad162 = ad165 := (by injection e165)
                                        replace p165 := eq_true p165
                                        replace q165 := eq_true q165
                                        have p166 : 0 ≤ (x12_2 : Int) := of_decide_eq_true (by first | (with_reducible assumption) | assumption)
                                        have q166 : x12_2 < (t155.length : Int) := of_decide_eq_true (by first | (with_reducible assumption) | assumption)
                                        obtain ⟨ad166, e166, hx166_0, hx166_1, hx166_2, hx166_3⟩ := at_T40 (Kd.R_reads' HO_6.out).2.2 x12_2 p166 q166
                                        (try rw [← Nbq27.out] at hx166_3)
                                        (try rw [← Nbq29.out] at hx166_3)
                                        obtain rfl : ad162 = ad166 := (by injection e166)
                                        replace p166 := eq_true p166
                                        replace q166 := eq_true q166
                                        have p167 : 0 ≤ (x13_3 : Int) := of_decide_eq_true (by first | (with_reducible assumption) | assumption)
                                        have q167 : x13_3 < (t155.length : Int) := of_decide_eq_true (by first | (with_reducible assumption) | assumption)
                                        obtain ⟨ad167, e167, hx167_0, hx167_1, hx167_2, hx167_3⟩ := at_T40 (Kd.R_reads' HO_6.out).2.2 x13_3 p167 q167
                                        (try rw [← Nbq27.out] at hx167_3)
                                        (try rw [← Nbq29.out] at hx167_3)
                                        obtain rfl : ad162 = ad167 := (by injection e167)
                                        replace p167 := eq_true p167
                                        replace q167 := eq_true q167
                                        go_wp2
                                        repeat (go_quiet (fail); try go_wp2)
                                        go_roundg k3
                                        case measure => have := HK1.out; have := HK2.out; have := HK3.out; omega
                                        case rel => exact ⟨(wrap64 (x13_3 + 1)), (by first | rfl | (simp; done) | (simp [*]; done)), H', ⟨by have := HK1.out; have := HK2.out; have := HK3.out; omega⟩, ⟨by (with_reducible repeat (first | apply Kd.R_alloc | apply Kd.R_drewN | apply Kd.R_drew)); exact HO_6.out⟩, ⟨by (with_reducible repeat (first | refine blk_drewN ?_ _ | refine blk_drew ?_ | refine blk_alloc ?_ _)); exact BK151.out⟩, ⟨by repeat (first | (with_reducible first | exact HB.out | apply below_alloc | apply pw_below_drewN | apply below_drew1 | refine below_set ?_ GE151.out) | exact HB.out)⟩⟩
                                · rw [if_neg c25] at H
                                  have c25b0 : (((rd_T40 t155 x12_2).f0).toList == ((rd_T40 t155 x13_3).f0).toList) = false := beq_eq_false_iff_ne.mpr c25
                                  have c25b1 : (((rd_T40 t155 x12_2).f0).toList != ((rd_T40 t155 x13_3).f0).toList) = true := bne_iff_ne.mpr c25
                                  have H' := Aside0.mk H
                                  clear H
                                  have p162 : 0 ≤ (x12_2 : Int) := of_decide_eq_true (by first | (with_reducible assumption) | assumption)
                                  have q162 : x12_2 < (t155.length : Int) := of_decide_eq_true (by first | (with_reducible assumption) | assumption)
                                  obtain ⟨ad162, e162, hx162_0, hx162_1, hx162_2, hx162_3⟩ := at_T40 (Kd.R_reads' HO_6.out).2.2 x12_2 p162 q162
                                  cases e162
                                  replace p162 := eq_true p162
                                  replace q162 := eq_true q162
                                  have p163 : 0 ≤ (x13_3 : Int) := of_decide_eq_true (by first | (with_reducible assumption) | assumption)
                                  have q163 : x13_3 < (t155.length : Int) := of_decide_eq_true (by first | (with_reducible assumption) | assumption)
                                  obtain ⟨ad163, e163, hx163_0, hx163_1, hx163_2, hx163_3⟩ := at_T40 (Kd.R_reads' HO_6.out).2.2 x13_3 p163 q163
                                  obtain rfl : ad162 = ad163 := (by injection e163)
                                  replace p163 := eq_true p163
                                  replace q163 := eq_true q163
                                  go_wp2
                                  repeat (go_quiet (fail); try go_wp2)
                                  go_roundg k3
                                  case measure => have := HK1.out; have := HK2.out; have := HK3.out; omega
                                  case rel => exact ⟨(wrap64 (x13_3 + 1)), (by first | rfl | (simp; done) | (simp [*]; done)), H', ⟨by have := HK1.out; have := HK2.out; have := HK3.out; omega⟩, ⟨by (with_reducible repeat (first | apply Kd.R_alloc | apply Kd.R_drewN | apply Kd.R_drew)); exact HO_6.out⟩, ⟨by (with_reducible repeat (first | refine blk_drewN ?_ _ | refine blk_drew ?_ | refine blk_alloc ?_ _)); exact BK151.out⟩, ⟨by repeat (first | (with_reducible first | exact HB.out | apply below_alloc | apply pw_below_drewN | apply below_drew1 | refine below_set ?_ GE151.out) | exact HB.out)⟩⟩
                              · rw [if_neg c24] at H
                                exact absurd H (by simp)
                            · rw [if_neg c23] at H
                              exact absurd H (by simp)
                          · rw [if_neg c22] at H
                            exact absurd H (by simp)
                        · rw [if_neg c21] at H
                          exact absurd H (by simp)
                      · rw [if_neg c20] at H
                        have c20b0 : decide (x13_3 < x12_2) = false := decide_eq_false c20
                        clear c20
                        have H' := Aside0.mk H
                        clear H
                        go_wp2
                        repeat (go_quiet (fail); try go_wp2)
                        go_roundg k3
                        case measure => have := HK1.out; have := HK2.out; have := HK3.out; omega
                        case rel => exact ⟨(wrap64 (x12_2 + 1)), (by first | rfl | (simp; done) | (simp [*]; done)), H', ⟨by have := HK1.out; have := HK2.out; have := HK3.out; omega⟩, ⟨by (with_reducible repeat (first | apply Kd.R_alloc | apply Kd.R_drewN | apply Kd.R_drew)); exact HO_6.out⟩, ⟨by (with_reducible repeat (first | refine blk_drewN ?_ _ | refine blk_drew ?_ | refine blk_alloc ?_ _)); exact BK151.out⟩, ⟨by repeat (first | (with_reducible first | exact HB.out | apply below_alloc | apply pw_below_drewN | apply below_drew1 | refine below_set ?_ GE151.out) | exact HB.out)⟩⟩
                · rw [if_neg c18] at H
                  have c18b0 : decide (x12_2 < (t155.length : Int)) = false := decide_eq_false c18
                  clear c18
                  have H' := Aside0.mk H
                  clear H
                  obtain ⟨Ao31, co31, eo31⟩ := Kd.R_slice HO_6.out
                  subst eo31
                  go_wp2
                  repeat (go_quiet (fail); try go_wp2)
                  go_roundg k2
                  case measure => have := HK1.out; have := HK2.out; omega
                  case rel => exact ⟨(t155), (wrap64 (x7_1 + 1)), (by first | rfl | (simp; done) | (simp [*]; done)), H', ⟨by have := HK1.out; have := HK2.out; omega⟩, ⟨by (with_reducible repeat (first | apply Kd.R_alloc | apply Kd.R_drewN | apply Kd.R_drew)); exact HO_6.out⟩, ⟨by repeat (first | (with_reducible first | exact HB.out | apply below_alloc | apply pw_below_drewN | apply below_drew1 | refine below_set ?_ GE151.out) | exact HB.out)⟩⟩
        · rw [if_neg c6] at H
          exact absurd H (by simp)
      · rw [if_neg c5] at H
        have c5b0 : decide (x7_1 < (l0.length : Int)) = false := decide_eq_false c5
        clear c5
        obtain rfl := Option.some.inj H
        go_wp2
        repeat (go_quiet (fail); try go_wp2)
        go_ret
        exact ⟨by first | rfl | (simp [errW_none, errW_some] <;> rfl) | (simp [*, errW_none, errW_some] <;> rfl), by repeat (first | (with_reducible first | exact HB.out | apply below_alloc | apply pw_below_drewN | apply below_drew1) | exact HB.out)⟩

end Go.Proofs.Ytgmflfbhifdacaa.Pr
