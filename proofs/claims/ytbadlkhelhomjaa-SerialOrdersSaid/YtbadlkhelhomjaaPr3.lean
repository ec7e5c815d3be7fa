/- What the program's functions compute, and that they compute it: printed out of the translation by a program of this session's (px.py, over the kit's printer). Conditions: none. -/
import Derived.Test.YtbadlkhelhomjaaPr0
import Derived.Test.YtbadlkhelhomjaaPr1
namespace Go.Proofs.Ytbadlkhelhomjaa.Pr
open Go.RowKit Go.Proofs.YtbadlkhelhomjaaW.PrintWords Go.Proofs.YtbadlkhelhomjaaW.PrintLast Go.Proofs.YtbadlkhelhomjaaW.PrintMore
attribute [local go_sem] max2_int min2_int max_two min_two max_three min_three max_four min_four   -- for this text's walks alone
set_option linter.unusedVariables false
set_option linter.unusedSimpArgs false

/-! ### ferruleref21_Order: function 13 -/
mutual
def ferruleref21_Order.l0 : Nat → List (S27) → List Int → List Bool → Int → Option (List Int × Int)
  | 0, _, _, _, _ => none
  | k + 1, x0, x4, x5, x6 => if x6 < (x0.length : Int) then (ferruleref21_Order.l1 k x0 x4 x5 x6 (-1) 0) else (some (x4, 0))
def ferruleref21_Order.l1 : Nat → List (S27) → List Int → List Bool → Int → Int → Int → Option (List Int × Int)
  | 0, _, _, _, _, _, _ => none
  | k + 1, x0, x4, x5, x6, x7, x8 => if x8 < (x0.length : Int) then (ferruleref21_Order.j2 k x0 x4 x5 x6 x7 x8 (decide (x7 < 0))) else (ferruleref21_Order.j2 k x0 x4 x5 x6 x7 x8 false)
def ferruleref21_Order.j2 : Nat → List (S27) → List Int → List Bool → Int → Int → Int → Bool → Option (List Int × Int)
  | 0, _, _, _, _, _, _, _ => none
  | k + 1, x0, x4, x5, x6, x7, x8, x31 => if x31 = true then (if 0 ≤ x8 then (if x8 < (x5.length : Int) then (ferruleref21_Order.l2 k x0 x4 x5 x6 x7 x8 (!(rdOf false x5 x8)) 0) else (none)) else (none)) else (if x7 < 0 then (some (([] : List Int), 9)) else (if 0 ≤ x7 then (if x7 < (x5.length : Int) then (if x4.length < 17592186044416 then (ferruleref21_Order.l0 k x0 (x4 ++ [x7]) (x5.set (x7 : Int).toNat true) (wrap64 (x6 + 1))) else (none)) else (none)) else (none)))
def ferruleref21_Order.l2 : Nat → List (S27) → List Int → List Bool → Int → Int → Int → Bool → Int → Option (List Int × Int)
  | 0, _, _, _, _, _, _, _, _ => none
  | k + 1, x0, x4, x5, x6, x7, x8, x9, x10 => if x10 < (x0.length : Int) then (ferruleref21_Order.j4 k x0 x4 x5 x6 x7 x8 x9 x10 x9) else (ferruleref21_Order.j4 k x0 x4 x5 x6 x7 x8 x9 x10 false)
def ferruleref21_Order.j4 : Nat → List (S27) → List Int → List Bool → Int → Int → Int → Bool → Int → Bool → Option (List Int × Int)
  | 0, _, _, _, _, _, _, _, _, _ => none
  | k + 1, x0, x4, x5, x6, x7, x8, x9, x10, x45 => if x45 = true then (if x10 = x8 then (ferruleref21_Order.l2 k x0 x4 x5 x6 x7 x8 x9 (wrap64 (x10 + 1))) else (if 0 ≤ x10 then (if x10 < (x5.length : Int) then (if rdOf false x5 x10 = true then (ferruleref21_Order.l2 k x0 x4 x5 x6 x7 x8 x9 (wrap64 (x10 + 1))) else (if x10 < (x0.length : Int) then (if 0 ≤ x8 then (if x8 < (x0.length : Int) then ((ferruleref21_Ahead.f k ((rd_T27 x0 x10).f0.f0) ((rd_T27 x0 x10).f0.f1) ((rd_T27 x0 x10).f1) ((rd_T27 x0 x10).f2) ((rd_T27 x0 x10).f3) ((rd_T27 x0 x10).f4) ((rd_T27 x0 x8).f0.f0) ((rd_T27 x0 x8).f0.f1) ((rd_T27 x0 x8).f1) ((rd_T27 x0 x8).f2) ((rd_T27 x0 x8).f3) ((rd_T27 x0 x8).f4)).bind fun t129 => (ferruleref21_Order.l2 k x0 x4 x5 x6 x7 x8 (!t129) (wrap64 (x10 + 1)))) else (none)) else (none)) else (none))) else (none)) else (none))) else (if x9 = true then (ferruleref21_Order.l1 k x0 x4 x5 x6 x8 (wrap64 (x8 + 1))) else (ferruleref21_Order.l1 k x0 x4 x5 x6 x7 (wrap64 (x8 + 1))))
end
def ferruleref21_Order.f (k : Nat) (l0 : List (S27)) : Option (List Int × Int) := if (l0.length : Int) > 64 then (some (([] : List Int), 4)) else (if 0 ≤ (l0.length : Int) then (if ((l0.length : Int) : Int).toNat ≤ 281474976710656 then (ferruleref21_Order.l0 k l0 ([] : List Int) (List.replicate ((l0.length : Int) : Int).toNat false) 0) else (none)) else (none))
theorem ferruleref21_Order.mono_l : ∀ k, (∀ y0 y1 y2 y3, LeO (ferruleref21_Order.l0 k y0 y1 y2 y3) (ferruleref21_Order.l0 (k + 1) y0 y1 y2 y3)) ∧ (∀ y0 y1 y2 y3 y4 y5, LeO (ferruleref21_Order.l1 k y0 y1 y2 y3 y4 y5) (ferruleref21_Order.l1 (k + 1) y0 y1 y2 y3 y4 y5)) ∧ (∀ y0 y1 y2 y3 y4 y5 y6, LeO (ferruleref21_Order.j2 k y0 y1 y2 y3 y4 y5 y6) (ferruleref21_Order.j2 (k + 1) y0 y1 y2 y3 y4 y5 y6)) ∧ (∀ y0 y1 y2 y3 y4 y5 y6 y7, LeO (ferruleref21_Order.l2 k y0 y1 y2 y3 y4 y5 y6 y7) (ferruleref21_Order.l2 (k + 1) y0 y1 y2 y3 y4 y5 y6 y7)) ∧ (∀ y0 y1 y2 y3 y4 y5 y6 y7 y8, LeO (ferruleref21_Order.j4 k y0 y1 y2 y3 y4 y5 y6 y7 y8) (ferruleref21_Order.j4 (k + 1) y0 y1 y2 y3 y4 y5 y6 y7 y8))
  | 0 => ⟨fun _ _ _ _ r h => by simp [ferruleref21_Order.l0] at h, fun _ _ _ _ _ _ r h => by simp [ferruleref21_Order.l1] at h, fun _ _ _ _ _ _ _ r h => by simp [ferruleref21_Order.j2] at h, fun _ _ _ _ _ _ _ _ r h => by simp [ferruleref21_Order.l2] at h, fun _ _ _ _ _ _ _ _ _ r h => by simp [ferruleref21_Order.j4] at h⟩
  | k + 1 => by
    obtain ⟨ih0, ih1, ih2, ih3, ih4⟩ := ferruleref21_Order.mono_l k
    refine ⟨?_, ?_, ?_, ?_, ?_⟩
    · intro y0 y1 y2 y3
      unfold ferruleref21_Order.l0
      repeat' first
      | (with_reducible exact ih0 _ _ _ _)
      | (with_reducible exact ih1 _ _ _ _ _ _)
      | (with_reducible exact ih2 _ _ _ _ _ _ _)
      | (with_reducible exact ih3 _ _ _ _ _ _ _ _)
      | (with_reducible exact ih4 _ _ _ _ _ _ _ _ _)
      | (with_reducible exact ferruleref21_Ahead.mono _ _ _ _ _ _ _ _ _ _ _ _ _)
      | (with_reducible exact LeO.refl _)
      | (with_reducible exact LeO.none _)
      | (with_reducible refine LeO.ite ?_ ?_)
      | (with_reducible refine LeO.bind ?_ (fun _ => ?_))
      | exact ih0 _ _ _ _
      | exact ih1 _ _ _ _ _ _
      | exact ih2 _ _ _ _ _ _ _
      | exact ih3 _ _ _ _ _ _ _ _
      | exact ih4 _ _ _ _ _ _ _ _ _
      | exact ferruleref21_Ahead.mono _ _ _ _ _ _ _ _ _ _ _ _ _
      | exact LeO.none _
      | refine LeO.ite ?_ ?_
      | refine LeO.bind ?_ (fun _ => ?_)
    · intro y0 y1 y2 y3 y4 y5
      unfold ferruleref21_Order.l1
      repeat' first
      | (with_reducible exact ih0 _ _ _ _)
      | (with_reducible exact ih1 _ _ _ _ _ _)
      | (with_reducible exact ih2 _ _ _ _ _ _ _)
      | (with_reducible exact ih3 _ _ _ _ _ _ _ _)
      | (with_reducible exact ih4 _ _ _ _ _ _ _ _ _)
      | (with_reducible exact ferruleref21_Ahead.mono _ _ _ _ _ _ _ _ _ _ _ _ _)
      | (with_reducible exact LeO.refl _)
      | (with_reducible exact LeO.none _)
      | (with_reducible refine LeO.ite ?_ ?_)
      | (with_reducible refine LeO.bind ?_ (fun _ => ?_))
      | exact ih0 _ _ _ _
      | exact ih1 _ _ _ _ _ _
      | exact ih2 _ _ _ _ _ _ _
      | exact ih3 _ _ _ _ _ _ _ _
      | exact ih4 _ _ _ _ _ _ _ _ _
      | exact ferruleref21_Ahead.mono _ _ _ _ _ _ _ _ _ _ _ _ _
      | exact LeO.none _
      | refine LeO.ite ?_ ?_
      | refine LeO.bind ?_ (fun _ => ?_)
    · intro y0 y1 y2 y3 y4 y5 y6
      unfold ferruleref21_Order.j2
      repeat' first
      | (with_reducible exact ih0 _ _ _ _)
      | (with_reducible exact ih1 _ _ _ _ _ _)
      | (with_reducible exact ih2 _ _ _ _ _ _ _)
      | (with_reducible exact ih3 _ _ _ _ _ _ _ _)
      | (with_reducible exact ih4 _ _ _ _ _ _ _ _ _)
      | (with_reducible exact ferruleref21_Ahead.mono _ _ _ _ _ _ _ _ _ _ _ _ _)
      | (with_reducible exact LeO.refl _)
      | (with_reducible exact LeO.none _)
      | (with_reducible refine LeO.ite ?_ ?_)
      | (with_reducible refine LeO.bind ?_ (fun _ => ?_))
      | exact ih0 _ _ _ _
      | exact ih1 _ _ _ _ _ _
      | exact ih2 _ _ _ _ _ _ _
      | exact ih3 _ _ _ _ _ _ _ _
      | exact ih4 _ _ _ _ _ _ _ _ _
      | exact ferruleref21_Ahead.mono _ _ _ _ _ _ _ _ _ _ _ _ _
      | exact LeO.none _
      | refine LeO.ite ?_ ?_
      | refine LeO.bind ?_ (fun _ => ?_)
    · intro y0 y1 y2 y3 y4 y5 y6 y7
      unfold ferruleref21_Order.l2
      repeat' first
      | (with_reducible exact ih0 _ _ _ _)
      | (with_reducible exact ih1 _ _ _ _ _ _)
      | (with_reducible exact ih2 _ _ _ _ _ _ _)
      | (with_reducible exact ih3 _ _ _ _ _ _ _ _)
      | (with_reducible exact ih4 _ _ _ _ _ _ _ _ _)
      | (with_reducible exact ferruleref21_Ahead.mono _ _ _ _ _ _ _ _ _ _ _ _ _)
      | (with_reducible exact LeO.refl _)
      | (with_reducible exact LeO.none _)
      | (with_reducible refine LeO.ite ?_ ?_)
      | (with_reducible refine LeO.bind ?_ (fun _ => ?_))
      | exact ih0 _ _ _ _
      | exact ih1 _ _ _ _ _ _
      | exact ih2 _ _ _ _ _ _ _
      | exact ih3 _ _ _ _ _ _ _ _
      | exact ih4 _ _ _ _ _ _ _ _ _
      | exact ferruleref21_Ahead.mono _ _ _ _ _ _ _ _ _ _ _ _ _
      | exact LeO.none _
      | refine LeO.ite ?_ ?_
      | refine LeO.bind ?_ (fun _ => ?_)
    · intro y0 y1 y2 y3 y4 y5 y6 y7 y8
      unfold ferruleref21_Order.j4
      repeat' first
      | (with_reducible exact ih0 _ _ _ _)
      | (with_reducible exact ih1 _ _ _ _ _ _)
      | (with_reducible exact ih2 _ _ _ _ _ _ _)
      | (with_reducible exact ih3 _ _ _ _ _ _ _ _)
      | (with_reducible exact ih4 _ _ _ _ _ _ _ _ _)
      | (with_reducible exact ferruleref21_Ahead.mono _ _ _ _ _ _ _ _ _ _ _ _ _)
      | (with_reducible exact LeO.refl _)
      | (with_reducible exact LeO.none _)
      | (with_reducible refine LeO.ite ?_ ?_)
      | (with_reducible refine LeO.bind ?_ (fun _ => ?_))
      | exact ih0 _ _ _ _
      | exact ih1 _ _ _ _ _ _
      | exact ih2 _ _ _ _ _ _ _
      | exact ih3 _ _ _ _ _ _ _ _
      | exact ih4 _ _ _ _ _ _ _ _ _
      | exact ferruleref21_Ahead.mono _ _ _ _ _ _ _ _ _ _ _ _ _
      | exact LeO.none _
      | refine LeO.ite ?_ ?_
      | refine LeO.bind ?_ (fun _ => ?_)
theorem ferruleref21_Order.mono : ∀ a0 k, LeO (ferruleref21_Order.f k a0) (ferruleref21_Order.f (k + 1) a0) := by
  intro a0 k
  obtain ⟨ih0, ih1, ih2, ih3, ih4⟩ := ferruleref21_Order.mono_l k
  unfold ferruleref21_Order.f
  repeat' first
      | (with_reducible exact ih0 _ _ _ _)
      | (with_reducible exact ih1 _ _ _ _ _ _)
      | (with_reducible exact ih2 _ _ _ _ _ _ _)
      | (with_reducible exact ih3 _ _ _ _ _ _ _ _)
      | (with_reducible exact ih4 _ _ _ _ _ _ _ _ _)
      | (with_reducible exact ferruleref21_Ahead.mono _ _ _ _ _ _ _ _ _ _ _ _ _)
      | (with_reducible exact LeO.refl _)
      | (with_reducible exact LeO.none _)
      | (with_reducible refine LeO.ite ?_ ?_)
      | (with_reducible refine LeO.bind ?_ (fun _ => ?_))
      | exact ih0 _ _ _ _
      | exact ih1 _ _ _ _ _ _
      | exact ih2 _ _ _ _ _ _ _
      | exact ih3 _ _ _ _ _ _ _ _
      | exact ih4 _ _ _ _ _ _ _ _ _
      | exact ferruleref21_Ahead.mono _ _ _ _ _ _ _ _ _ _ _ _ _
      | exact LeO.none _
      | refine LeO.ite ?_ ?_
      | refine LeO.bind ?_ (fun _ => ?_)
def ferruleref21_Order.T17 : Bool × List (List Nat × List Nat) := (true, [([], []), ([], []), ([0, 1], [0, 1]), ([2], [2]), ([], []), ([], []), ([4, 5], [4, 5]), ([6], [6]), ([3, 7], [3, 7]), ([8, 8, 0, 1, 2, 3, 4, 5, 6, 7, 8], [8])])
def ferruleref21_Order.B17 : List Nat := [0, 0, 3, 7, 0, 0, 48, 112, 255, 511]
theorem ferruleref21_Order.tab17 : rtab .any (opsOf Try.f13 17) = ferruleref21_Order.T17 := by kernel_rfl
theorem ferruleref21_Order.bits17 : waitsOk ferruleref21_Order.T17.2 ferruleref21_Order.B17 = true := by kernel_rfl
set_option maxHeartbeats 8000000 in
set_option maxRecDepth 100000 in
theorem ferruleref21_Order.calls (k : Nat) (A0 : Option Addr) (c0 : Nat) (l0 : List (S27)) (r1 : List Int) (r2 : Int) (w : World) (hr0 : Kd.C k27 w A0 l0.length l0) (hc0 : l0.length ≤ c0) (h : ferruleref21_Order.f k l0 = some (r1, r2)) :
    Calls Try.prog 13 #[.slice A0 l0.length c0] w fun e w' => ∃ v0_ : Value, e = .returned (.tuple #[v0_, .int .i64 r2]) ∧ Kd.R (Kd.int .i64) 3 w' w.heap.size (fun _ => True) v0_ r1 ∧ Below w.heap.size w w' := by
  have hu27 := Try.underlying27
  have HR0 := Aside0.mk hr0
  have HC0 := Aside0.mk hc0
  clear hr0 hc0
  have HB := Aside0.mk (Below.refl w.heap.size w)
  have H : (if (l0.length : Int) > 64 then (some (([] : List Int), 4)) else (if 0 ≤ (l0.length : Int) then (if ((l0.length : Int) : Int).toNat ≤ 281474976710656 then (ferruleref21_Order.l0 k l0 ([] : List Int) (List.replicate ((l0.length : Int) : Int).toNat false) 0) else (none)) else (none))) = some (r1, r2) := h
  clear h
  by_cases c2 : (l0.length : Int) > 64
  · rw [if_pos c2] at H
    have c2b0 : decide (64 < (l0.length : Int)) = true := decide_eq_true c2
    have c2b1 : decide (64 < l0.length) = true := decide_eq_true (by omega)
    clear c2
    simp only [Option.some.injEq, Prod.mk.injEq] at H
    obtain ⟨rfl, rfl⟩ := H
    go_enter Try.func13, Try.ntmps13
    go_wp2
    go_ret2
    exact ⟨_, by first | rfl | (simp [errW_none, errW_some] <;> rfl) | (simp [*, errW_none, errW_some] <;> rfl), by first | exact Kd.R_nil _ _ _ _ _ | exact Kd.N_nil _ _ _ _ _ | exact Kd.V_nil _ _ _ _ _ | exact Kd.Q_nil _ _ _ _ _ | exact Kd.S_nil _ _ _ _ _, by repeat (first | (with_reducible first | exact HB.out | apply below_alloc | apply pw_below_drewN | apply below_drew1) | exact HB.out)⟩
  · rw [if_neg c2] at H
    have c2b0 : decide (64 < (l0.length : Int)) = false := decide_eq_false c2
    have c2b1 : decide (64 < l0.length) = false := decide_eq_false (by omega)
    clear c2
    by_cases c3 : 0 ≤ (l0.length : Int)
    · rw [if_pos c3] at H
      have c3b0 := eq_true c3
      have c3b1 : decide (0 ≤ (l0.length : Int)) = true := decide_eq_true c3
      clear c3
      by_cases c4 : ((l0.length : Int) : Int).toNat ≤ 281474976710656
      · rw [if_pos c4] at H
        have c4b0 := eq_true c4
        have c4b1 : decide (((l0.length : Int) : Int).toNat ≤ 281474976710656) = true := decide_eq_true c4
        clear c4
        obtain ⟨y118, hy118⟩ : ∃ y_ : List Bool, y_ = (List.replicate ((l0.length : Int) : Int).toNat false) := ⟨_, rfl⟩
        replace H : (ferruleref21_Order.l0 k l0 ([] : List Int) y118 0) = some (r1, r2) := by first | (rw [hy118]; with_reducible exact H) | (have H2_ := (Option.bind_some _ _).symm.trans H; rw [hy118]; with_reducible exact H2_) | (have H2_ := (Option.bind_some _ _).symm.trans H; with_reducible exact H2_) | with_reducible exact H | (rw [hy118]; exact H) | exact H
        have Ny118 := Aside0.mk hy118
        clear hy118
        have H' := Aside0.mk H
        clear H
        go_enter Try.func13, Try.ntmps13
        go_wp2_with (first | ((with_reducible refine gate_dst (N := 17) rfl ?_); refine Kd.R_make Kd.bool _ 4 rfl (N := 17) rfl 47 _ _ rfl (l0.length : Int) rfl rfl Try.underlying47 (.bool false) 1 info4 rfl (by decide) (by omega) false (ok := fun _ => True) (okp := fun _ => True) rfl (fun _ hk => hk) trivial (of_decide_eq_true (by first | (with_reducible assumption) | assumption)) (Nat.le_trans (Nat.mul_le_mul_right _ (of_decide_eq_true (by first | (with_reducible assumption) | assumption) : (l0.length : Int).toNat ≤ 281474976710656)) (by omega)) (Below.refl _ _) (Nat.le_refl _) ?_; intro v119 w5 ho6 hb hg_ hnew_; clear hg_ hnew_; (first | rw [← Ny118.out] at ho6 | (simp only [Int.reduceToNat] at ho6; rw [← Ny118.out] at ho6)); have n0_ := Aside0.mk (Kd.R_lower ho6 (below_size (by repeat (first | (with_reducible first | exact HB.out | apply below_alloc | apply pw_below_drewN | apply below_drew1) | exact HB.out)))); have n1_ := Aside0.mk (below_step (by repeat (first | (with_reducible first | exact HB.out | apply below_alloc | apply pw_below_drewN | apply below_drew1) | exact HB.out)) hb); clear HB; have HO120 := n0_; have HB := n1_; clear n0_ n1_; clear hb ho6))
        go_loopg [4, 6] k (fun kq v4 v6 w' => ∃ (x4_1 : List Int) (x5_1 : List Bool) (x6_1 : Int), v6 = .int .i64 x6_1 ∧ Aside0 (ferruleref21_Order.l0 kq l0 x4_1 x5_1 x6_1 = some (r1, r2)) ∧ Aside0 (kq ≤ k) ∧ Aside0 (Kd.R (Kd.int .i64) 3 w' w.heap.size (fun _ => True) v4 x4_1) ∧ Aside0 (Kd.R Kd.bool 4 w' w.heap.size (fun _ => True) v119 x5_1) ∧ Aside0 (Below w.heap.size w w'))
        case atStart => exact ⟨(([] : List Int)), (y118), (0), (by first | rfl | (simp; done) | (simp [*]; done)), H', ⟨Nat.le_refl _⟩, ⟨by first | exact Kd.R_nil _ _ _ _ _ | exact Kd.N_nil _ _ _ _ _ | exact Kd.V_nil _ _ _ _ _ | exact Kd.Q_nil _ _ _ _ _ | exact Kd.S_nil _ _ _ _ _⟩, ⟨by (with_reducible repeat (first | apply Kd.R_alloc | apply Kd.R_drewN | apply Kd.R_drew)); exact HO120.out⟩, ⟨by repeat (first | (with_reducible first | exact HB.out | apply below_alloc | apply pw_below_drewN | apply below_drew1) | exact HB.out)⟩⟩
        case round =>
          clear H'
          try clear c1
          try clear c2
          try clear c2b0
          try clear c2b1
          try clear p2
          try clear c3
          try clear c3b0
          try clear c3b1
          try clear c4
          try clear c4b0
          try clear c4b1
          obtain ⟨x4_1, x5_1, x6_1, rfl, HA, HK1, HO_4, HO_5, HB⟩ := hrel
          cases gk with
          | zero => exact absurd HA.out (by simp [ferruleref21_Order.l0])
          | succ k1 =>
            have H := HA.out
            clear HA
            simp only [ferruleref21_Order.l0] at H
            by_cases c7 : x6_1 < (l0.length : Int)
            · rw [if_pos c7] at H
              have c7b0 : decide (x6_1 < (l0.length : Int)) = true := decide_eq_true c7
              clear c7
              have H' := Aside0.mk H
              clear H
              go_wp2
              go_loopg [7, 8] k1 (fun kq v7 v8 w' => ∃ (x7_2 : Int) (x8_2 : Int), v7 = .int .i64 x7_2 ∧ v8 = .int .i64 x8_2 ∧ Aside0 (ferruleref21_Order.l1 kq l0 x4_1 x5_1 x6_1 x7_2 x8_2 = some (r1, r2)) ∧ Aside0 (kq ≤ k1) ∧ Aside0 (Kd.R (Kd.int .i64) 3 w' w.heap.size (fun _ => True) u4 x4_1) ∧ Aside0 (Kd.R Kd.bool 4 w' w.heap.size (fun _ => True) v119 x5_1) ∧ Aside0 (Below w.heap.size w w'))
              case atStart => exact ⟨((-1)), (0), (by first | rfl | (simp; done) | (simp [*]; done)), (by first | rfl | (simp; done) | (simp [*]; done)), H', ⟨Nat.le_refl _⟩, ⟨by (with_reducible repeat (first | apply Kd.R_alloc | apply Kd.R_drewN | apply Kd.R_drew)); exact HO_4.out⟩, ⟨by (with_reducible repeat (first | apply Kd.R_alloc | apply Kd.R_drewN | apply Kd.R_drew)); exact HO_5.out⟩, ⟨by repeat (first | (with_reducible first | exact HB.out | apply below_alloc | apply pw_below_drewN | apply below_drew1) | exact HB.out)⟩⟩
              case round =>
                clear H'
                try clear c1
                try clear c2
                try clear c2b0
                try clear c2b1
                try clear p2
                try clear c3
                try clear c3b0
                try clear c3b1
                try clear c4
                try clear c4b0
                try clear c4b1
                try clear c7
                try clear c7b0
                try clear p2
                obtain ⟨x7_2, x8_2, rfl, rfl, HA, HK2, HO_4, HO_5, HB⟩ := hrel
                cases gk with
                | zero => exact absurd HA.out (by simp [ferruleref21_Order.l1])
                | succ k2 =>
                  have H := HA.out
                  clear HA
                  simp only [ferruleref21_Order.l1] at H
                  have HC8 := Aside0.mk H
                  clear H
                  go_upto_region 10 with (fail)
                  go_cut [31] (fun v31 wc => ∃ (kq : Nat) (x31_7 : Bool), v31 = .bool x31_7 ∧ Aside0 (ferruleref21_Order.j2 kq l0 x4_1 x5_1 x6_1 x7_2 x8_2 x31_7 = some (r1, r2)) ∧ Aside0 (kq ≤ k2) ∧ Aside0 (Kd.R (Kd.int .i64) 3 wc w.heap.size (fun _ => True) u4 x4_1) ∧ Aside0 (Kd.R Kd.bool 4 wc w.heap.size (fun _ => True) v119 x5_1) ∧ Aside0 (Below w.heap.size w wc))
                  case first =>
                    have H := HC8.out
                    clear HC8
                    by_cases c9 : x8_2 < (l0.length : Int)
                    · rw [if_pos c9] at H
                      have c9b0 : decide (x8_2 < (l0.length : Int)) = true := decide_eq_true c9
                      clear c9
                      (first | rw [c9b0] | (simp only [i64_w, i32_w]; rw [c9b0]) | skip)
                      have H' := Aside0.mk H
                      clear H
                      go_wp2
                      go_meet
                      case rel => exact ⟨_, (decide (x7_2 < 0)), (by first | rfl | (simp; done) | (simp [*]; done)), H', ⟨by have := HK1.out; have := HK2.out; first | omega | exact Nat.le_refl _⟩, ⟨by (with_reducible repeat (first | apply Kd.R_alloc | apply Kd.R_drewN | apply Kd.R_drew)); exact HO_4.out⟩, ⟨by (with_reducible repeat (first | apply Kd.R_alloc | apply Kd.R_drewN | apply Kd.R_drew)); exact HO_5.out⟩, ⟨by repeat (first | (with_reducible first | exact HB.out | apply below_alloc | apply pw_below_drewN | apply below_drew1) | exact HB.out)⟩⟩
                    · rw [if_neg c9] at H
                      have c9b0 : decide (x8_2 < (l0.length : Int)) = false := decide_eq_false c9
                      clear c9
                      (first | rw [c9b0] | (simp only [i64_w, i32_w]; rw [c9b0]) | skip)
                      have H' := Aside0.mk H
                      clear H
                      go_wp2
                      go_meet
                      case rel => exact ⟨_, (false), (by first | rfl | (simp; done) | (simp [*]; done)), H', ⟨by have := HK1.out; have := HK2.out; first | omega | exact Nat.le_refl _⟩, ⟨by (with_reducible repeat (first | apply Kd.R_alloc | apply Kd.R_drewN | apply Kd.R_drew)); exact HO_4.out⟩, ⟨by (with_reducible repeat (first | apply Kd.R_alloc | apply Kd.R_drewN | apply Kd.R_drew)); exact HO_5.out⟩, ⟨by repeat (first | (with_reducible first | exact HB.out | apply below_alloc | apply pw_below_drewN | apply below_drew1) | exact HB.out)⟩⟩
                  case rest =>
                    clear HC8
                    try clear c1
                    try clear c2
                    try clear c2b0
                    try clear c2b1
                    try clear p2
                    try clear c3
                    try clear c3b0
                    try clear c3b1
                    try clear c4
                    try clear c4b0
                    try clear c4b1
                    try clear c7
                    try clear c7b0
                    try clear c9
                    try clear c9b0
                    try clear p2
                    obtain ⟨kq, x31_7, rfl, HA, HJ7, HO_4, HO_5, HB⟩ := hcut
                    cases kq with
                    | zero => exact absurd HA.out (by simp [ferruleref21_Order.j2])
                    | succ kj7 =>
                      have H := HA.out
                      clear HA
                      simp only [ferruleref21_Order.j2] at H
                      by_cases c10 : x31_7 = true
                      · subst c10
                        have H1 : (if 0 ≤ x8_2 then (if x8_2 < (x5_1.length : Int) then (ferruleref21_Order.l2 kj7 l0 x4_1 x5_1 x6_1 x7_2 x8_2 (!(rdOf false x5_1 x8_2)) 0) else (none)) else (none)) = some (r1, r2) := by rw [if_pos rfl] at H; exact H
                        clear H
                        have H := H1
                        clear H1
                        by_cases c11 : 0 ≤ x8_2
                        · rw [if_pos c11] at H
                          have c11b0 : decide (0 ≤ x8_2) = true := decide_eq_true c11
                          clear c11
                          by_cases c12 : x8_2 < (x5_1.length : Int)
                          · rw [if_pos c12] at H
                            have c12b0 : decide (x8_2 < (x5_1.length : Int)) = true := decide_eq_true c12
                            clear c12
                            have H' := Aside0.mk H
                            clear H
                            obtain ⟨Ao13, co13, eo13⟩ := Kd.R_slice HO_5.out
                            subst eo13
                            have p125 : 0 ≤ (x8_2 : Int) := of_decide_eq_true (by first | (with_reducible assumption) | assumption)
                            have q125 : x8_2 < (x5_1.length : Int) := of_decide_eq_true (by first | (with_reducible assumption) | assumption)
                            obtain ⟨ad125, e125, hx125_0⟩ := Kd.at_bool (Kd.R_reads' HO_5.out).2.2 x8_2 p125 q125
                            cases e125
                            replace p125 := eq_true p125
                            replace q125 := eq_true q125
                            go_wp2
                            go_loopg [9, 10] kj7 (fun kq v9 v10 w' => ∃ (x9_4 : Bool) (x10_4 : Int), v9 = .bool x9_4 ∧ v10 = .int .i64 x10_4 ∧ Aside0 (ferruleref21_Order.l2 kq l0 x4_1 x5_1 x6_1 x7_2 x8_2 x9_4 x10_4 = some (r1, r2)) ∧ Aside0 (kq ≤ kj7) ∧ Aside0 (Kd.R (Kd.int .i64) 3 w' w.heap.size (fun _ => True) u4 x4_1) ∧ Aside0 (Kd.R Kd.bool 4 w' w.heap.size (fun _ => True) (.slice (some ad125) x5_1.length co13) x5_1) ∧ Aside0 (Below w.heap.size w w'))
                            case atStart => exact ⟨(!(rdOf false x5_1 x8_2)), (0), (by first | rfl | (simp; done) | (simp [*]; done)), (by first | rfl | (simp; done) | (simp [*]; done)), H', ⟨Nat.le_refl _⟩, ⟨by (with_reducible repeat (first | apply Kd.R_alloc | apply Kd.R_drewN | apply Kd.R_drew)); exact HO_4.out⟩, ⟨by (with_reducible repeat (first | apply Kd.R_alloc | apply Kd.R_drewN | apply Kd.R_drew)); exact HO_5.out⟩, ⟨by repeat (first | (with_reducible first | exact HB.out | apply below_alloc | apply pw_below_drewN | apply below_drew1) | exact HB.out)⟩⟩
                            case round =>
                              clear H'
                              try clear c1
                              try clear p1
                              try clear q1
                              try clear hx1
                              try clear c2
                              try clear c2b0
                              try clear c2b1
                              try clear p2
                              try clear c3
                              try clear c3b0
                              try clear c3b1
                              try clear c4
                              try clear c4b0
                              try clear c4b1
                              try clear c7
                              try clear c7b0
                              try clear c9
                              try clear c9b0
                              try clear c10
                              try clear c11
                              try clear c11b0
                              try clear c12
                              try clear c12b0
                              try clear p12
                              try clear q12
                              try clear hx12
                              try clear c13
                              try clear hx125_0
                              try clear p125
                              try clear p2
                              try clear q125
                              obtain ⟨x9_4, x10_4, rfl, rfl, HA, HK4, HO_4, HO_5, HB⟩ := hrel
                              cases gk with
                              | zero => exact absurd HA.out (by simp [ferruleref21_Order.l2])
                              | succ k4 =>
                                have H := HA.out
                                clear HA
                                simp only [ferruleref21_Order.l2] at H
                                have HC14 := Aside0.mk H
                                clear H
                                go_upto_region 14 with (fail)
                                go_cut [45] (fun v45 wc => ∃ (kq : Nat) (x45_13 : Bool), v45 = .bool x45_13 ∧ Aside0 (ferruleref21_Order.j4 kq l0 x4_1 x5_1 x6_1 x7_2 x8_2 x9_4 x10_4 x45_13 = some (r1, r2)) ∧ Aside0 (kq ≤ k4) ∧ Aside0 (Kd.R (Kd.int .i64) 3 wc w.heap.size (fun _ => True) u4 x4_1) ∧ Aside0 (Kd.R Kd.bool 4 wc w.heap.size (fun _ => True) (.slice (some ad125) x5_1.length co13) x5_1) ∧ Aside0 (Below w.heap.size w wc))
                                case first =>
                                  have H := HC14.out
                                  clear HC14
                                  by_cases c15 : x10_4 < (l0.length : Int)
                                  · rw [if_pos c15] at H
                                    have c15b0 : decide (x10_4 < (l0.length : Int)) = true := decide_eq_true c15
                                    clear c15
                                    (first | rw [c15b0] | (simp only [i64_w, i32_w]; rw [c15b0]) | skip)
                                    have H' := Aside0.mk H
                                    clear H
                                    go_wp2
                                    go_meet
                                    case rel => exact ⟨_, (x9_4), (by first | rfl | (simp; done) | (simp [*]; done)), H', ⟨by have := HK1.out; have := HK2.out; have := HJ7.out; have := HK4.out; first | omega | exact Nat.le_refl _⟩, ⟨by (with_reducible repeat (first | apply Kd.R_alloc | apply Kd.R_drewN | apply Kd.R_drew)); exact HO_4.out⟩, ⟨by (with_reducible repeat (first | apply Kd.R_alloc | apply Kd.R_drewN | apply Kd.R_drew)); exact HO_5.out⟩, ⟨by repeat (first | (with_reducible first | exact HB.out | apply below_alloc | apply pw_below_drewN | apply below_drew1) | exact HB.out)⟩⟩
                                  · rw [if_neg c15] at H
                                    have c15b0 : decide (x10_4 < (l0.length : Int)) = false := decide_eq_false c15
                                    clear c15
                                    (first | rw [c15b0] | (simp only [i64_w, i32_w]; rw [c15b0]) | skip)
                                    have H' := Aside0.mk H
                                    clear H
                                    go_wp2
                                    go_meet
                                    case rel => exact ⟨_, (false), (by first | rfl | (simp; done) | (simp [*]; done)), H', ⟨by have := HK1.out; have := HK2.out; have := HJ7.out; have := HK4.out; first | omega | exact Nat.le_refl _⟩, ⟨by (with_reducible repeat (first | apply Kd.R_alloc | apply Kd.R_drewN | apply Kd.R_drew)); exact HO_4.out⟩, ⟨by (with_reducible repeat (first | apply Kd.R_alloc | apply Kd.R_drewN | apply Kd.R_drew)); exact HO_5.out⟩, ⟨by repeat (first | (with_reducible first | exact HB.out | apply below_alloc | apply pw_below_drewN | apply below_drew1) | exact HB.out)⟩⟩
                                case rest =>
                                  clear HC14
                                  try clear c1
                                  try clear p1
                                  try clear q1
                                  try clear hx1
                                  try clear c2
                                  try clear c2b0
                                  try clear c2b1
                                  try clear p2
                                  try clear c3
                                  try clear c3b0
                                  try clear c3b1
                                  try clear c4
                                  try clear c4b0
                                  try clear c4b1
                                  try clear c7
                                  try clear c7b0
                                  try clear c9
                                  try clear c9b0
                                  try clear c10
                                  try clear c11
                                  try clear c11b0
                                  try clear c12
                                  try clear c12b0
                                  try clear p12
                                  try clear q12
                                  try clear hx12
                                  try clear c13
                                  try clear c15
                                  try clear c15b0
                                  try clear hx125_0
                                  try clear p1
                                  try clear p12
                                  try clear p125
                                  try clear p2
                                  try clear q1
                                  try clear q12
                                  try clear q125
                                  obtain ⟨kq, x45_13, rfl, HA, HJ13, HO_4, HO_5, HB⟩ := hcut
                                  cases kq with
                                  | zero => exact absurd HA.out (by simp [ferruleref21_Order.j4])
                                  | succ kj13 =>
                                    have H := HA.out
                                    clear HA
                                    simp only [ferruleref21_Order.j4] at H
                                    by_cases c16 : x45_13 = true
                                    · subst c16
                                      have H1 : (if x10_4 = x8_2 then (ferruleref21_Order.l2 kj13 l0 x4_1 x5_1 x6_1 x7_2 x8_2 x9_4 (wrap64 (x10_4 + 1))) else (if 0 ≤ x10_4 then (if x10_4 < (x5_1.length : Int) then (if rdOf false x5_1 x10_4 = true then (ferruleref21_Order.l2 kj13 l0 x4_1 x5_1 x6_1 x7_2 x8_2 x9_4 (wrap64 (x10_4 + 1))) else (if x10_4 < (l0.length : Int) then (if 0 ≤ x8_2 then (if x8_2 < (l0.length : Int) then ((ferruleref21_Ahead.f kj13 ((rd_T27 l0 x10_4).f0.f0) ((rd_T27 l0 x10_4).f0.f1) ((rd_T27 l0 x10_4).f1) ((rd_T27 l0 x10_4).f2) ((rd_T27 l0 x10_4).f3) ((rd_T27 l0 x10_4).f4) ((rd_T27 l0 x8_2).f0.f0) ((rd_T27 l0 x8_2).f0.f1) ((rd_T27 l0 x8_2).f1) ((rd_T27 l0 x8_2).f2) ((rd_T27 l0 x8_2).f3) ((rd_T27 l0 x8_2).f4)).bind fun t129 => (ferruleref21_Order.l2 kj13 l0 x4_1 x5_1 x6_1 x7_2 x8_2 (!t129) (wrap64 (x10_4 + 1)))) else (none)) else (none)) else (none))) else (none)) else (none))) = some (r1, r2) := by rw [if_pos rfl] at H; exact H
                                      clear H
                                      have H := H1
                                      clear H1
                                      by_cases c17 : x10_4 = x8_2
                                      · rw [if_pos c17] at H
                                        have c17b0 : (x10_4 == x8_2) = true := beq_iff_eq.mpr c17
                                        have c17b1 : (x10_4 != x8_2) = false := bne_eq_false_iff_eq.mpr c17
                                        clear c17
                                        have H' := Aside0.mk H
                                        clear H
                                        go_wp2
                                        go_roundg kj13
                                        case measure => have := HK1.out; have := HK2.out; have := HJ7.out; have := HK4.out; have := HJ13.out; omega
                                        case rel => exact ⟨(x9_4), (wrap64 (x10_4 + 1)), (by first | rfl | (simp; done) | (simp [*]; done)), (by first | rfl | (simp; done) | (simp [*]; done)), H', ⟨by have := HK1.out; have := HK2.out; have := HJ7.out; have := HK4.out; have := HJ13.out; omega⟩, ⟨by (with_reducible repeat (first | apply Kd.R_alloc | apply Kd.R_drewN | apply Kd.R_drew)); exact HO_4.out⟩, ⟨by (with_reducible repeat (first | apply Kd.R_alloc | apply Kd.R_drewN | apply Kd.R_drew)); exact HO_5.out⟩, ⟨by repeat (first | (with_reducible first | exact HB.out | apply below_alloc | apply pw_below_drewN | apply below_drew1) | exact HB.out)⟩⟩
                                      · rw [if_neg c17] at H
                                        have c17b0 : (x10_4 == x8_2) = false := beq_eq_false_iff_ne.mpr c17
                                        have c17b1 : (x10_4 != x8_2) = true := bne_iff_ne.mpr c17
                                        by_cases c18 : 0 ≤ x10_4
                                        · rw [if_pos c18] at H
                                          have c18b0 : decide (0 ≤ x10_4) = true := decide_eq_true c18
                                          clear c18
                                          by_cases c19 : x10_4 < (x5_1.length : Int)
                                          · rw [if_pos c19] at H
                                            have c19b0 : decide (x10_4 < (x5_1.length : Int)) = true := decide_eq_true c19
                                            clear c19
                                            obtain ⟨bq20, hbq20⟩ : ∃ b_ : Bool, b_ = (rdOf false x5_1 x10_4) := ⟨_, rfl⟩
                                            replace H : (if bq20 = true then (ferruleref21_Order.l2 kj13 l0 x4_1 x5_1 x6_1 x7_2 x8_2 x9_4 (wrap64 (x10_4 + 1))) else (if x10_4 < (l0.length : Int) then (if 0 ≤ x8_2 then (if x8_2 < (l0.length : Int) then ((ferruleref21_Ahead.f kj13 ((rd_T27 l0 x10_4).f0.f0) ((rd_T27 l0 x10_4).f0.f1) ((rd_T27 l0 x10_4).f1) ((rd_T27 l0 x10_4).f2) ((rd_T27 l0 x10_4).f3) ((rd_T27 l0 x10_4).f4) ((rd_T27 l0 x8_2).f0.f0) ((rd_T27 l0 x8_2).f0.f1) ((rd_T27 l0 x8_2).f1) ((rd_T27 l0 x8_2).f2) ((rd_T27 l0 x8_2).f3) ((rd_T27 l0 x8_2).f4)).bind fun t129 => (ferruleref21_Order.l2 kj13 l0 x4_1 x5_1 x6_1 x7_2 x8_2 (!t129) (wrap64 (x10_4 + 1)))) else (none)) else (none)) else (none))) = some (r1, r2) := by rw [← hbq20] at H; exact H
                                            have Nbq20 := Aside0.mk hbq20
                                            clear hbq20
                                            by_cases c21 : bq20 = true
                                            · subst c21
                                              have H1 : (ferruleref21_Order.l2 kj13 l0 x4_1 x5_1 x6_1 x7_2 x8_2 x9_4 (wrap64 (x10_4 + 1))) = some (r1, r2) := by rw [if_pos rfl] at H; exact H
                                              clear H
                                              have H := H1
                                              clear H1
                                              have H' := Aside0.mk H
                                              clear H
                                              have p126 : 0 ≤ (x10_4 : Int) := of_decide_eq_true (by first | (with_reducible assumption) | assumption)
                                              have q126 : x10_4 < (x5_1.length : Int) := of_decide_eq_true (by first | (with_reducible assumption) | assumption)
                                              obtain ⟨ad126, e126, hx126_0⟩ := Kd.at_bool (Kd.R_reads' HO_5.out).2.2 x10_4 p126 q126
                                              (try rw [← Nbq20.out] at hx126_0)
                                              obtain rfl : ad125 = ad126 := (by injection e126)
                                              replace p126 := eq_true p126
                                              replace q126 := eq_true q126
                                              go_wp2
                                              go_roundg kj13
                                              case measure => have := HK1.out; have := HK2.out; have := HJ7.out; have := HK4.out; have := HJ13.out; omega
                                              case rel => exact ⟨(x9_4), (wrap64 (x10_4 + 1)), (by first | rfl | (simp; done) | (simp [*]; done)), (by first | rfl | (simp; done) | (simp [*]; done)), H', ⟨by have := HK1.out; have := HK2.out; have := HJ7.out; have := HK4.out; have := HJ13.out; omega⟩, ⟨by (with_reducible repeat (first | apply Kd.R_alloc | apply Kd.R_drewN | apply Kd.R_drew)); exact HO_4.out⟩, ⟨by (with_reducible repeat (first | apply Kd.R_alloc | apply Kd.R_drewN | apply Kd.R_drew)); exact HO_5.out⟩, ⟨by repeat (first | (with_reducible first | exact HB.out | apply below_alloc | apply pw_below_drewN | apply below_drew1) | exact HB.out)⟩⟩
                                            · replace c21 := Bool.eq_false_iff.mpr c21
                                              subst c21
                                              have H1 : (if x10_4 < (l0.length : Int) then (if 0 ≤ x8_2 then (if x8_2 < (l0.length : Int) then ((ferruleref21_Ahead.f kj13 ((rd_T27 l0 x10_4).f0.f0) ((rd_T27 l0 x10_4).f0.f1) ((rd_T27 l0 x10_4).f1) ((rd_T27 l0 x10_4).f2) ((rd_T27 l0 x10_4).f3) ((rd_T27 l0 x10_4).f4) ((rd_T27 l0 x8_2).f0.f0) ((rd_T27 l0 x8_2).f0.f1) ((rd_T27 l0 x8_2).f1) ((rd_T27 l0 x8_2).f2) ((rd_T27 l0 x8_2).f3) ((rd_T27 l0 x8_2).f4)).bind fun t129 => (ferruleref21_Order.l2 kj13 l0 x4_1 x5_1 x6_1 x7_2 x8_2 (!t129) (wrap64 (x10_4 + 1)))) else (none)) else (none)) else (none)) = some (r1, r2) := by rw [if_neg (show ¬ (false = true) by decide)] at H; exact H
                                              clear H
                                              have H := H1
                                              clear H1
                                              by_cases c22 : x10_4 < (l0.length : Int)
                                              · rw [if_pos c22] at H
                                                have c22b0 : decide (x10_4 < (l0.length : Int)) = true := decide_eq_true c22
                                                clear c22
                                                by_cases c23 : 0 ≤ x8_2
                                                · rw [if_pos c23] at H
                                                  have c23b0 : decide (0 ≤ x8_2) = true := decide_eq_true c23
                                                  clear c23
                                                  by_cases c24 : x8_2 < (l0.length : Int)
                                                  · rw [if_pos c24] at H
                                                    have c24b0 : decide (x8_2 < (l0.length : Int)) = true := decide_eq_true c24
                                                    clear c24
                                                    replace H := Option.bind_eq_some_iff.mp H
                                                    obtain ⟨t129, A250, H⟩ := H
                                                    replace H : (ferruleref21_Order.l2 kj13 l0 x4_1 x5_1 x6_1 x7_2 x8_2 (!t129) (wrap64 (x10_4 + 1))) = some (r1, r2) := H
                                                    have A25 := Aside0.mk A250
                                                    clear A250
                                                    have H' := Aside0.mk H
                                                    clear H
                                                    have p126 : 0 ≤ (x10_4 : Int) := of_decide_eq_true (by first | (with_reducible assumption) | assumption)
                                                    have q126 : x10_4 < (x5_1.length : Int) := of_decide_eq_true (by first | (with_reducible assumption) | assumption)
                                                    obtain ⟨ad126, e126, hx126_0⟩ := Kd.at_bool (Kd.R_reads' HO_5.out).2.2 x10_4 p126 q126
                                                    (try rw [← Nbq20.out] at hx126_0)
                                                    obtain rfl : ad125 = ad126 := (by injection e126)
                                                    replace p126 := eq_true p126
                                                    replace q126 := eq_true q126
                                                    try go_wp2
                                                    have n0_ := Aside0.mk (Kd.R_drew HO_4.out)
                                                    have n1_ := Aside0.mk (Kd.R_drew HO_5.out)
                                                    have n2_ := Aside0.mk (below_drew1 HB.out)
                                                    clear HO_4
                                                    clear HO_5
                                                    clear HB
                                                    have HO_4 := n0_
                                                    have HO_5 := n1_
                                                    have HB := n2_
                                                    clear n0_ n1_ n2_
                                                    have p127 : 0 ≤ (x10_4 : Int) := of_decide_eq_true (by first | (with_reducible assumption) | assumption)
                                                    have q127 : x10_4 < (l0.length : Int) := of_decide_eq_true (by first | (with_reducible assumption) | assumption)
                                                    obtain ⟨ad127, A127_4, c127_4, A127_5, c127_5, e127, hx127_0, hx127_1, hx127_2, hx127_3, hx127_4, hx127_5, hl127_4, hi127_4, hl127_5, hi127_5⟩ := at_T27 HR0.out x10_4 p127 q127
                                                    have hw127_5 := hx127_5
                                                    have hw127_4 := hx127_4
                                                    have hw127_3 := hx127_3
                                                    have hw127_2 := hx127_2
                                                    have hw127_1 := hx127_1
                                                    have hw127_0 := hx127_0
                                                    cases e127
                                                    replace hx127_0 := (HB.out.cell (World.block_lt_of_cell? w _ hx127_0)).trans hx127_0
                                                    replace hx127_1 := (HB.out.cell (World.block_lt_of_cell? w _ hx127_1)).trans hx127_1
                                                    replace hx127_2 := (HB.out.cell (World.block_lt_of_cell? w _ hx127_2)).trans hx127_2
                                                    replace hx127_3 := (HB.out.cell (World.block_lt_of_cell? w _ hx127_3)).trans hx127_3
                                                    replace hx127_4 := (HB.out.cell (World.block_lt_of_cell? w _ hx127_4)).trans hx127_4
                                                    replace hx127_5 := (HB.out.cell (World.block_lt_of_cell? w _ hx127_5)).trans hx127_5
                                                    have HR127_4 := Aside0.mk hi127_4
                                                    have HC127_4 := Aside0.mk hl127_4
                                                    clear hi127_4 hl127_4
                                                    have HR127_5 := Aside0.mk hi127_5
                                                    have HC127_5 := Aside0.mk hl127_5
                                                    clear hi127_5 hl127_5
                                                    replace p127 := eq_true p127
                                                    replace q127 := eq_true q127
                                                    have p128 : 0 ≤ (x8_2 : Int) := of_decide_eq_true (by first | (with_reducible assumption) | assumption)
                                                    have q128 : x8_2 < (l0.length : Int) := of_decide_eq_true (by first | (with_reducible assumption) | assumption)
                                                    obtain ⟨ad128, A128_4, c128_4, A128_5, c128_5, e128, hx128_0, hx128_1, hx128_2, hx128_3, hx128_4, hx128_5, hl128_4, hi128_4, hl128_5, hi128_5⟩ := at_T27 HR0.out x8_2 p128 q128
                                                    have hw128_5 := hx128_5
                                                    have hw128_4 := hx128_4
                                                    have hw128_3 := hx128_3
                                                    have hw128_2 := hx128_2
                                                    have hw128_1 := hx128_1
                                                    have hw128_0 := hx128_0
                                                    obtain rfl : ad127 = ad128 := (by injection e128)
                                                    replace hx128_0 := (HB.out.cell (World.block_lt_of_cell? w _ hx128_0)).trans hx128_0
                                                    replace hx128_1 := (HB.out.cell (World.block_lt_of_cell? w _ hx128_1)).trans hx128_1
                                                    replace hx128_2 := (HB.out.cell (World.block_lt_of_cell? w _ hx128_2)).trans hx128_2
                                                    replace hx128_3 := (HB.out.cell (World.block_lt_of_cell? w _ hx128_3)).trans hx128_3
                                                    replace hx128_4 := (HB.out.cell (World.block_lt_of_cell? w _ hx128_4)).trans hx128_4
                                                    replace hx128_5 := (HB.out.cell (World.block_lt_of_cell? w _ hx128_5)).trans hx128_5
                                                    have HR128_4 := Aside0.mk hi128_4
                                                    have HC128_4 := Aside0.mk hl128_4
                                                    clear hi128_4 hl128_4
                                                    have HR128_5 := Aside0.mk hi128_5
                                                    have HC128_5 := Aside0.mk hl128_5
                                                    clear hi128_5 hl128_5
                                                    replace p128 := eq_true p128
                                                    replace q128 := eq_true q128
                                                    refine start_ (n := 10) (S := fun w' => w'.cell? (ad127.add ((x10_4).toNat * 6)) = some (.int .u64 ((rd_T27 l0 x10_4).f0.f0)) ∧ w'.cell? ⟨(ad127.add ((x10_4).toNat * 6)).block, (ad127.add ((x10_4).toNat * 6)).off + 1, none⟩ = some (.int .u64 ((rd_T27 l0 x10_4).f0.f1)) ∧ w'.cell? ⟨(ad127.add ((x10_4).toNat * 6)).block, (ad127.add ((x10_4).toNat * 6)).off + 2, none⟩ = some (.int .u64 ((rd_T27 l0 x10_4).f1)) ∧ w'.cell? ⟨(ad127.add ((x10_4).toNat * 6)).block, (ad127.add ((x10_4).toNat * 6)).off + 3, none⟩ = some (.int .u64 ((rd_T27 l0 x10_4).f2)) ∧ w'.cell? ⟨(ad127.add ((x10_4).toNat * 6)).block, (ad127.add ((x10_4).toNat * 6)).off + 4, none⟩ = some (.slice A127_4 ((rd_T27 l0 x10_4).f3).length c127_4) ∧ w'.cell? ⟨(ad127.add ((x10_4).toNat * 6)).block, (ad127.add ((x10_4).toNat * 6)).off + 5, none⟩ = some (.slice A127_5 ((rd_T27 l0 x10_4).f4).length c127_5) ∧ w'.cell? (ad127.add ((x8_2).toNat * 6)) = some (.int .u64 ((rd_T27 l0 x8_2).f0.f0)) ∧ w'.cell? ⟨(ad127.add ((x8_2).toNat * 6)).block, (ad127.add ((x8_2).toNat * 6)).off + 1, none⟩ = some (.int .u64 ((rd_T27 l0 x8_2).f0.f1)) ∧ w'.cell? ⟨(ad127.add ((x8_2).toNat * 6)).block, (ad127.add ((x8_2).toNat * 6)).off + 2, none⟩ = some (.int .u64 ((rd_T27 l0 x8_2).f1)) ∧ w'.cell? ⟨(ad127.add ((x8_2).toNat * 6)).block, (ad127.add ((x8_2).toNat * 6)).off + 3, none⟩ = some (.int .u64 ((rd_T27 l0 x8_2).f2)) ∧ w'.cell? ⟨(ad127.add ((x8_2).toNat * 6)).block, (ad127.add ((x8_2).toNat * 6)).off + 4, none⟩ = some (.slice A128_4 ((rd_T27 l0 x8_2).f3).length c128_4) ∧ w'.cell? ⟨(ad127.add ((x8_2).toNat * 6)).block, (ad127.add ((x8_2).toNat * 6)).off + 5, none⟩ = some (.slice A128_5 ((rd_T27 l0 x8_2).f4).length c128_5)) (ds := []) #[false, false, false, false, false, false, false, false, false, false] (by kernel_rfl) rfl rfl ⟨((HB.out.cell (World.block_lt_of_cell? w _ hw127_0)).trans hw127_0), ((HB.out.cell (World.block_lt_of_cell? w _ hw127_1)).trans hw127_1), ((HB.out.cell (World.block_lt_of_cell? w _ hw127_2)).trans hw127_2), ((HB.out.cell (World.block_lt_of_cell? w _ hw127_3)).trans hw127_3), ((HB.out.cell (World.block_lt_of_cell? w _ hw127_4)).trans hw127_4), ((HB.out.cell (World.block_lt_of_cell? w _ hw127_5)).trans hw127_5), ((HB.out.cell (World.block_lt_of_cell? w _ hw128_0)).trans hw128_0), ((HB.out.cell (World.block_lt_of_cell? w _ hw128_1)).trans hw128_1), ((HB.out.cell (World.block_lt_of_cell? w _ hw128_2)).trans hw128_2), ((HB.out.cell (World.block_lt_of_cell? w _ hw128_3)).trans hw128_3), ((HB.out.cell (World.block_lt_of_cell? w _ hw128_4)).trans hw128_4), ((HB.out.cell (World.block_lt_of_cell? w _ hw128_5)).trans hw128_5)⟩ (fun hHeld => ?_); refine with_tabW ferruleref21_Order.tab17 ferruleref21_Order.bits17 (fun HT_ HW_ => ?_)
                                                    generalize wc.drew = w26 at HO_4 HO_5 HB HR127_4 HR127_5 HR128_4 HR128_5 hx127_0 hx127_1 hx127_2 hx127_3 hx127_4 hx127_5 hx128_0 hx128_1 hx128_2 hx128_3 hx128_4 hx128_5 hHeld ⊢
                                                    refine pure_ (i := 0) (N := some 57) (v := ?_) (a' := ?_) #[true, false, false, false, false, false, false, false, false, false] rfl rfl (any_of HT_.out (by kernel_rfl)) (fun _ _ _ h => h) (Or.inl ⟨by rfl, ?_⟩) ?_ ?_
                                                    rotate_left
                                                    · intro w'
                                                      go_simp
                                                      with_reducible rfl
                                                    rotate_left
                                                    · simp only [Act.put, List.setIfInBounds_toArray, List.set_cons_zero, List.set_cons_succ, i64_w, i32_w]
                                                      rfl
                                                    refine pure_ (i := 1) (N := some 58) (v := ?_) (a' := ?_) #[true, true, false, false, false, false, false, false, false, false] rfl rfl (any_of HT_.out (by kernel_rfl)) (fun _ _ _ h => h) (Or.inl ⟨by rfl, ?_⟩) ?_ ?_
                                                    rotate_left
                                                    · intro w'
                                                      go_simp
                                                      with_reducible rfl
                                                    rotate_left
                                                    · simp only [Act.put, List.setIfInBounds_toArray, List.set_cons_zero, List.set_cons_succ, i64_w, i32_w]
                                                      rfl
                                                    refine pure_ (i := 2) (N := some 59) (v := ?_) (a' := ?_) #[true, true, true, false, false, false, false, false, false, false] rfl rfl (any_of HT_.out (by kernel_rfl)) (fun _ _ _ h => h) (Or.inl ⟨by rfl, ?_⟩) ?_ ?_
                                                    rotate_left
                                                    · intro w'
                                                      go_simp
                                                      with_reducible rfl
                                                    rotate_left
                                                    · simp only [Act.put, List.setIfInBounds_toArray, List.set_cons_zero, List.set_cons_succ, i64_w, i32_w]
                                                      rfl
                                                    refine pure_ (i := 4) (N := some 61) (v := ?_) (a' := ?_) #[true, true, true, false, true, false, false, false, false, false] rfl rfl (any_of HT_.out (by kernel_rfl)) (fun _ _ _ h => h) (Or.inl ⟨by rfl, ?_⟩) ?_ ?_
                                                    rotate_left
                                                    · intro w'
                                                      go_simp
                                                      with_reducible rfl
                                                    rotate_left
                                                    · simp only [Act.put, List.setIfInBounds_toArray, List.set_cons_zero, List.set_cons_succ, i64_w, i32_w]
                                                      rfl
                                                    refine pure_ (i := 5) (N := some 62) (v := ?_) (a' := ?_) #[true, true, true, false, true, true, false, false, false, false] rfl rfl (any_of HT_.out (by kernel_rfl)) (fun _ _ _ h => h) (Or.inl ⟨by rfl, ?_⟩) ?_ ?_
                                                    rotate_left
                                                    · intro w'
                                                      go_simp
                                                      with_reducible rfl
                                                    rotate_left
                                                    · simp only [Act.put, List.setIfInBounds_toArray, List.set_cons_zero, List.set_cons_succ, i64_w, i32_w]
                                                      rfl
                                                    refine pure_ (i := 6) (N := some 63) (v := ?_) (a' := ?_) #[true, true, true, false, true, true, true, false, false, false] rfl rfl (any_of HT_.out (by kernel_rfl)) (fun _ _ _ h => h) (Or.inl ⟨by rfl, ?_⟩) ?_ ?_
                                                    rotate_left
                                                    · intro w'
                                                      go_simp
                                                      with_reducible rfl
                                                    rotate_left
                                                    · simp only [Act.put, List.setIfInBounds_toArray, List.set_cons_zero, List.set_cons_succ, i64_w, i32_w]
                                                      rfl
                                                    refine take_ (i := 3) (N := some 60) (v := ?_) (a' := ?_) #[true, true, true, true, true, true, true, false, false, false] rfl rfl (take_ofW HT_.out HW_.out (by kernel_rfl)) (fun _ _ _ h => h) (Or.inl ⟨by rfl, ?_⟩) hHeld ?_ ?_
                                                    rotate_left
                                                    · rintro w' ⟨s0, s1, s2, s3, s4, s5, s6, s7, s8, s9, s10, s11⟩
                                                      go_simp
                                                      with_reducible rfl
                                                    rotate_left
                                                    · simp only [Act.put, List.setIfInBounds_toArray, List.set_cons_zero, List.set_cons_succ, i64_w, i32_w]
                                                      rfl
                                                    refine take_ (i := 7) (N := some 64) (v := ?_) (a' := ?_) #[true, true, true, true, true, true, true, true, false, false] rfl rfl (take_ofW HT_.out HW_.out (by kernel_rfl)) (fun _ _ _ h => h) (Or.inl ⟨by rfl, ?_⟩) hHeld ?_ ?_
                                                    rotate_left
                                                    · rintro w' ⟨s0, s1, s2, s3, s4, s5, s6, s7, s8, s9, s10, s11⟩
                                                      go_simp
                                                      with_reducible rfl
                                                    rotate_left
                                                    · simp only [Act.put, List.setIfInBounds_toArray, List.set_cons_zero, List.set_cons_succ, i64_w, i32_w]
                                                      rfl
                                                    refine one_ (i := 8) (N := some 65) #[true, true, true, true, true, true, true, true, true, false] rfl rfl (one_of HT_.out (by kernel_rfl)) (by decide) (fun K hK => ?_)
                                                    refine goes_ Try.func11 (by kernel_rfl) rfl #[.agg #[.int .u64 ((rd_T27 l0 x10_4).f0.f0), .int .u64 ((rd_T27 l0 x10_4).f0.f1), .int .u64 ((rd_T27 l0 x10_4).f1), .int .u64 ((rd_T27 l0 x10_4).f2), .slice A127_4 ((rd_T27 l0 x10_4).f3).length c127_4, .slice A127_5 ((rd_T27 l0 x10_4).f4).length c127_5], .agg #[.int .u64 ((rd_T27 l0 x8_2).f0.f0), .int .u64 ((rd_T27 l0 x8_2).f0.f1), .int .u64 ((rd_T27 l0 x8_2).f1), .int .u64 ((rd_T27 l0 x8_2).f2), .slice A128_4 ((rd_T27 l0 x8_2).f3).length c128_4, .slice A128_5 ((rd_T27 l0 x8_2).f4).length c128_5]] (by rfl) rfl rfl (by (try simp only [List.map_toArray, List.map_cons, List.map_nil]); first | done | rfl | (simp only [List.length_drop, List.length_take]; rfl)) ?_
                                                    with_reducible refine (ferruleref21_Ahead.calls kj13 ((rd_T27 l0 x10_4).f0.f0) ((rd_T27 l0 x10_4).f0.f1) ((rd_T27 l0 x10_4).f1) ((rd_T27 l0 x10_4).f2) _ _ ((rd_T27 l0 x10_4).f3) _ _ ((rd_T27 l0 x10_4).f4) ((rd_T27 l0 x8_2).f0.f0) ((rd_T27 l0 x8_2).f0.f1) ((rd_T27 l0 x8_2).f1) ((rd_T27 l0 x8_2).f2) _ _ ((rd_T27 l0 x8_2).f3) _ _ ((rd_T27 l0 x8_2).f4) t129 _ ?side1 ?side2 ?side3 ?side4 ?side5 ?side6 ?side7 ?side8 A25.out).mono ?_
                                                    (case side1 => repeat (first | exact (Kd.C_below HR127_4.out HB.out) | (with_reducible refine Kd.C_alloc ?_ _) | (with_reducible refine Kd.C_drewN ?_ _) | (with_reducible refine Kd.C_drew ?_)))
                                                    (case side2 => exact HC127_4.out)
                                                    (case side3 => repeat (first | exact (Kd.C_below HR127_5.out HB.out) | (with_reducible refine Kd.C_alloc ?_ _) | (with_reducible refine Kd.C_drewN ?_ _) | (with_reducible refine Kd.C_drew ?_)))
                                                    (case side4 => exact HC127_5.out)
                                                    (case side5 => repeat (first | exact (Kd.C_below HR128_4.out HB.out) | (with_reducible refine Kd.C_alloc ?_ _) | (with_reducible refine Kd.C_drewN ?_ _) | (with_reducible refine Kd.C_drew ?_)))
                                                    (case side6 => exact HC128_4.out)
                                                    (case side7 => repeat (first | exact (Kd.C_below HR128_5.out HB.out) | (with_reducible refine Kd.C_alloc ?_ _) | (with_reducible refine Kd.C_drewN ?_ _) | (with_reducible refine Kd.C_drew ?_)))
                                                    (case side8 => exact HC128_5.out)
                                                    rintro e w27 ⟨rfl, hb⟩
                                                    refine ⟨_, rfl, ?_⟩
                                                    have n0_ := Aside0.mk (Kd.R_below (by (with_reducible repeat (first | apply Kd.R_alloc | apply Kd.R_drewN | apply Kd.R_drew)); exact HO_4.out) hb)
                                                    have n1_ := Aside0.mk (Kd.R_below (by (with_reducible repeat (first | apply Kd.R_alloc | apply Kd.R_drewN | apply Kd.R_drew)); exact HO_5.out) hb)
                                                    have n2_ := Aside0.mk (below_step (by repeat (first | (with_reducible first | exact HB.out | apply below_alloc | apply pw_below_drewN | apply below_drew1) | exact HB.out)) hb)
                                                    clear HO_4
                                                    clear HO_5
                                                    clear HB
                                                    have HO_4 := n0_
                                                    have HO_5 := n1_
                                                    have HB := n2_
                                                    clear n0_ n1_ n2_
                                                    (try clear hb)
                                                    (try clear hb2)
                                                    (try clear hk)
                                                    (try clear hi)
                                                    refine hK.out _ _ ⟨((HB.out.cell (World.block_lt_of_cell? w _ hw127_0)).trans hw127_0), ((HB.out.cell (World.block_lt_of_cell? w _ hw127_1)).trans hw127_1), ((HB.out.cell (World.block_lt_of_cell? w _ hw127_2)).trans hw127_2), ((HB.out.cell (World.block_lt_of_cell? w _ hw127_3)).trans hw127_3), ((HB.out.cell (World.block_lt_of_cell? w _ hw127_4)).trans hw127_4), ((HB.out.cell (World.block_lt_of_cell? w _ hw127_5)).trans hw127_5), ((HB.out.cell (World.block_lt_of_cell? w _ hw128_0)).trans hw128_0), ((HB.out.cell (World.block_lt_of_cell? w _ hw128_1)).trans hw128_1), ((HB.out.cell (World.block_lt_of_cell? w _ hw128_2)).trans hw128_2), ((HB.out.cell (World.block_lt_of_cell? w _ hw128_3)).trans hw128_3), ((HB.out.cell (World.block_lt_of_cell? w _ hw128_4)).trans hw128_4), ((HB.out.cell (World.block_lt_of_cell? w _ hw128_5)).trans hw128_5)⟩ (fun hHeld => ?_)
                                                    clear hK K
                                                    refine norm_ (a' := ?_) ?_ ?_
                                                    rotate_left
                                                    · show Act.put _ (some 65) _ = _
                                                      simp only [Act.put, List.setIfInBounds_toArray, List.set_cons_zero, List.set_cons_succ, i64_w, i32_w]
                                                      rfl
                                                    refine pure_ (i := 9) (N := some 11) (v := ?_) (a' := ?_) #[true, true, true, true, true, true, true, true, true, true] rfl rfl (any_of HT_.out (by kernel_rfl)) (fun _ _ _ h => h) (Or.inl ⟨by rfl, ?_⟩) ?_ ?_
                                                    rotate_left
                                                    · intro w'
                                                      go_simp
                                                      with_reducible rfl
                                                    rotate_left
                                                    · simp only [Act.put, List.setIfInBounds_toArray, List.set_cons_zero, List.set_cons_succ, i64_w, i32_w]
                                                      rfl
                                                    refine done_ (done_of HT_.out (by kernel_rfl)) ?_
                                                    try go_wp2
                                                    go_roundg kj13
                                                    case measure => have := HK1.out; have := HK2.out; have := HJ7.out; have := HK4.out; have := HJ13.out; omega
                                                    case rel => exact ⟨(!t129), (wrap64 (x10_4 + 1)), (by first | rfl | (simp; done) | (simp [*]; done)), (by first | rfl | (simp; done) | (simp [*]; done)), H', ⟨by have := HK1.out; have := HK2.out; have := HJ7.out; have := HK4.out; have := HJ13.out; omega⟩, ⟨by (with_reducible repeat (first | apply Kd.R_alloc | apply Kd.R_drewN | apply Kd.R_drew)); exact HO_4.out⟩, ⟨by (with_reducible repeat (first | apply Kd.R_alloc | apply Kd.R_drewN | apply Kd.R_drew)); exact HO_5.out⟩, ⟨by repeat (first | (with_reducible first | exact HB.out | apply below_alloc | apply pw_below_drewN | apply below_drew1) | exact HB.out)⟩⟩
                                                  · rw [if_neg c24] at H
                                                    exact absurd H (by simp)
                                                · rw [if_neg c23] at H
                                                  exact absurd H (by simp)
                                              · rw [if_neg c22] at H
                                                exact absurd H (by simp)
                                          · rw [if_neg c19] at H
                                            exact absurd H (by simp)
                                        · rw [if_neg c18] at H
                                          exact absurd H (by simp)
                                    · replace c16 := Bool.eq_false_iff.mpr c16
                                      subst c16
                                      have H1 : (if x9_4 = true then (ferruleref21_Order.l1 kj13 l0 x4_1 x5_1 x6_1 x8_2 (wrap64 (x8_2 + 1))) else (ferruleref21_Order.l1 kj13 l0 x4_1 x5_1 x6_1 x7_2 (wrap64 (x8_2 + 1)))) = some (r1, r2) := by rw [if_neg (show ¬ (false = true) by decide)] at H; exact H
                                      clear H
                                      have H := H1
                                      clear H1
                                      by_cases c28 : x9_4 = true
                                      · subst c28
                                        have H1 : (ferruleref21_Order.l1 kj13 l0 x4_1 x5_1 x6_1 x8_2 (wrap64 (x8_2 + 1))) = some (r1, r2) := by rw [if_pos rfl] at H; exact H
                                        clear H
                                        have H := H1
                                        clear H1
                                        have H' := Aside0.mk H
                                        clear H
                                        go_wp2
                                        go_roundg kj13
                                        case measure => have := HK1.out; have := HK2.out; have := HJ7.out; have := HK4.out; have := HJ13.out; omega
                                        case rel => exact ⟨(x8_2), (wrap64 (x8_2 + 1)), (by first | rfl | (simp; done) | (simp [*]; done)), (by first | rfl | (simp; done) | (simp [*]; done)), H', ⟨by have := HK1.out; have := HK2.out; have := HJ7.out; have := HK4.out; have := HJ13.out; omega⟩, ⟨by (with_reducible repeat (first | apply Kd.R_alloc | apply Kd.R_drewN | apply Kd.R_drew)); exact HO_4.out⟩, ⟨by (with_reducible repeat (first | apply Kd.R_alloc | apply Kd.R_drewN | apply Kd.R_drew)); exact HO_5.out⟩, ⟨by repeat (first | (with_reducible first | exact HB.out | apply below_alloc | apply pw_below_drewN | apply below_drew1) | exact HB.out)⟩⟩
                                      · replace c28 := Bool.eq_false_iff.mpr c28
                                        subst c28
                                        have H1 : (ferruleref21_Order.l1 kj13 l0 x4_1 x5_1 x6_1 x7_2 (wrap64 (x8_2 + 1))) = some (r1, r2) := by rw [if_neg (show ¬ (false = true) by decide)] at H; exact H
                                        clear H
                                        have H := H1
                                        clear H1
                                        have H' := Aside0.mk H
                                        clear H
                                        go_wp2
                                        go_roundg kj13
                                        case measure => have := HK1.out; have := HK2.out; have := HJ7.out; have := HK4.out; have := HJ13.out; omega
                                        case rel => exact ⟨(x7_2), (wrap64 (x8_2 + 1)), (by first | rfl | (simp; done) | (simp [*]; done)), (by first | rfl | (simp; done) | (simp [*]; done)), H', ⟨by have := HK1.out; have := HK2.out; have := HJ7.out; have := HK4.out; have := HJ13.out; omega⟩, ⟨by (with_reducible repeat (first | apply Kd.R_alloc | apply Kd.R_drewN | apply Kd.R_drew)); exact HO_4.out⟩, ⟨by (with_reducible repeat (first | apply Kd.R_alloc | apply Kd.R_drewN | apply Kd.R_drew)); exact HO_5.out⟩, ⟨by repeat (first | (with_reducible first | exact HB.out | apply below_alloc | apply pw_below_drewN | apply below_drew1) | exact HB.out)⟩⟩
                          · rw [if_neg c12] at H
                            exact absurd H (by simp)
                        · rw [if_neg c11] at H
                          exact absurd H (by simp)
                      · replace c10 := Bool.eq_false_iff.mpr c10
                        subst c10
                        have H1 : (if x7_2 < 0 then (some (([] : List Int), 9)) else (if 0 ≤ x7_2 then (if x7_2 < (x5_1.length : Int) then (if x4_1.length < 17592186044416 then (ferruleref21_Order.l0 kj7 l0 (x4_1 ++ [x7_2]) (x5_1.set (x7_2 : Int).toNat true) (wrap64 (x6_1 + 1))) else (none)) else (none)) else (none))) = some (r1, r2) := by rw [if_neg (show ¬ (false = true) by decide)] at H; exact H
                        clear H
                        have H := H1
                        clear H1
                        by_cases c29 : x7_2 < 0
                        · rw [if_pos c29] at H
                          have c29b0 : decide (x7_2 < 0) = true := decide_eq_true c29
                          clear c29
                          simp only [Option.some.injEq, Prod.mk.injEq] at H
                          obtain ⟨rfl, rfl⟩ := H
                          go_wp2
                          go_ret2
                          exact ⟨_, by first | rfl | (simp [errW_none, errW_some] <;> rfl) | (simp [*, errW_none, errW_some] <;> rfl), by first | exact Kd.R_nil _ _ _ _ _ | exact Kd.N_nil _ _ _ _ _ | exact Kd.V_nil _ _ _ _ _ | exact Kd.Q_nil _ _ _ _ _ | exact Kd.S_nil _ _ _ _ _, by repeat (first | (with_reducible first | exact HB.out | apply below_alloc | apply pw_below_drewN | apply below_drew1) | exact HB.out)⟩
                        · rw [if_neg c29] at H
                          have c29b0 : decide (x7_2 < 0) = false := decide_eq_false c29
                          clear c29
                          by_cases c30 : 0 ≤ x7_2
                          · rw [if_pos c30] at H
                            have c30b0 : decide (0 ≤ x7_2) = true := decide_eq_true c30
                            clear c30
                            by_cases c31 : x7_2 < (x5_1.length : Int)
                            · rw [if_pos c31] at H
                              have c31b0 : decide (x7_2 < (x5_1.length : Int)) = true := decide_eq_true c31
                              clear c31
                              obtain ⟨y121, hy121⟩ : ∃ y_ : List Bool, y_ = (x5_1.set (x7_2 : Int).toNat true) := ⟨_, rfl⟩
                              replace H : (if x4_1.length < 17592186044416 then (ferruleref21_Order.l0 kj7 l0 (x4_1 ++ [x7_2]) y121 (wrap64 (x6_1 + 1))) else (none)) = some (r1, r2) := by first | (rw [hy121]; with_reducible exact H) | (have H2_ := (Option.bind_some _ _).symm.trans H; rw [hy121]; with_reducible exact H2_) | (have H2_ := (Option.bind_some _ _).symm.trans H; with_reducible exact H2_) | with_reducible exact H | (rw [hy121]; exact H) | exact H
                              have Ny121 := Aside0.mk hy121
                              clear hy121
                              by_cases c33 : x4_1.length < 17592186044416
                              · rw [if_pos c33] at H
                                have LMc33 := Aside0.mk c33
                                clear c33
                                obtain ⟨y122, hy122⟩ : ∃ y_ : List Int, y_ = (x4_1 ++ [x7_2]) := ⟨_, rfl⟩
                                replace H : (ferruleref21_Order.l0 kj7 l0 y122 y121 (wrap64 (x6_1 + 1))) = some (r1, r2) := by first | (rw [hy122]; with_reducible exact H) | (have H2_ := (Option.bind_some _ _).symm.trans H; rw [hy122]; with_reducible exact H2_) | (have H2_ := (Option.bind_some _ _).symm.trans H; with_reducible exact H2_) | with_reducible exact H | (rw [hy122]; exact H) | exact H
                                have Ny122 := Aside0.mk hy122
                                clear hy122
                                have H' := Aside0.mk H
                                clear H
                                have p32 : 0 ≤ (x7_2 : Int) := of_decide_eq_true (by first | (with_reducible assumption) | assumption)
                                have q32 : (x7_2 : Int) < ((x5_1.length : Int) : Int) := of_decide_eq_true (by first | (with_reducible assumption) | assumption)
                                obtain ⟨go32, co32, eo32, gb32, gl32, cl32, HG32⟩ := Kd.R_form HO_5.out (by omega)
                                (first | cases eo32 | (injection eo32 with ea_ en_ ec_; (first | subst ea_ | (injection ea_ with ea_; subst ea_)); subst ec_; clear en_))
                                have GB32 := Aside0.mk gb32
                                have GG32 := Aside0.mk HG32
                                clear gb32 gl32 HG32
                                obtain ⟨hx32_0, hf32_0⟩ := Kd.R_celln false HO_5.out (x7_2 : Int) p32 q32
                                replace p32 := eq_true p32
                                replace q32 := eq_true q32
                                have HP34 := Kd.R_putg HO_5.out (x7_2 : Int) true
                                go_wp2_with (first | ((with_reducible refine gate_store (t := 4) (p := 74) rfl ?_); refine store_event (t := 4) (p := 74) (v := ?vo_w35) (w1 := (wc.setCell ⟨go32, (x7_2 : Int).toNat, none⟩ (.bool true))) ?hg ?ho ?hn ?hr ?_; (case ho => rfl); (case hg => rfl); (case hn => rfl); (case hr => first | (go_simp; done) | (go_simp; rfl)); intro w35 hw; have hg : wc.grownBy w35 (some go32) := (by rw [hw]; exact HP34.2); have hp_ : Kd.R Kd.bool 4 w35 w.heap.size (fun _ => True) (.slice (some ⟨go32, 0, none⟩) x5_1.length co32) y121 := (by rw [hw, Ny121.out]; exact HP34.1); clear HP34; have n0_ := Aside0.mk (Kd.R_over' (v := (.slice (some ⟨go32, 0, none⟩) x5_1.length co32)) (by (with_reducible repeat (first | apply Kd.R_alloc | apply Kd.R_drewN | apply Kd.R_drew)); exact HO_4.out) (Kd.R_typed HO_5.out) (by decide) hg); have n1_ := Aside0.mk (hp_); have n2_ := Aside0.mk ((by rw [hw]; exact below_set (HB.out) GB32.out : Below w.heap.size w w35)); clear HO_4; clear HO_5; clear HB; have HO_4 := n0_; have HO_5 := n1_; have HB := n2_; clear n0_ n1_ n2_; clear hg hw hp_) | ((with_reducible refine gate_builtin (b := .append) (xs := #[.tmp 75, .tmp 77]) rfl ?_); at_builtin; refine Kd.R_append (Kd.int .i64) (w0 := w) w.heap.size rfl (.tmp 75) (.tmp 77) 31 3 (.int .i64 0) 8 rfl Try.underlying31 info3 rfl (by decide) (by omega) u4 x4_1 x7_2 [.int .i64 x7_2] (fun _ => True) (fun _ => False) rfl rfl ?aP (fun _ hk => hk.elim) ?aF ?aO ?aB ?aS ?aL ?_; (case aP => exact rfl); (case aB => exact (by repeat (first | (with_reducible first | exact HB.out | apply below_alloc | apply pw_below_drewN | apply below_drew1) | exact HB.out))); (case aF => exact (fun _ _ => trivial)); (case aO => exact (by (with_reducible repeat (first | apply Kd.R_alloc | apply Kd.R_drewN | apply Kd.R_drew)); exact HO_4.out)); (case aS => exact (below_size (by repeat (first | (with_reducible first | exact HB.out | apply below_alloc | apply pw_below_drewN | apply below_drew1) | exact HB.out)))); (case aL => have := LMc33.out; omega); intro v123 w36 ho hb hg hat; rw [← Ny122.out] at ho; have n0_ := Aside0.mk (Kd.R_over' (by (with_reducible repeat (first | apply Kd.R_alloc | apply Kd.R_drewN | apply Kd.R_drew)); exact HO_5.out) (Kd.R_typed (by (with_reducible repeat (first | apply Kd.R_alloc | apply Kd.R_drewN | apply Kd.R_drew)); exact HO_4.out)) (by decide) hg); have n1_ := Aside0.mk (hb); have n2_ := Aside0.mk (ho); clear HO_5; clear HB; clear HO_4; have HO_5 := n0_; have HB := n1_; have HO124 := n2_; clear n0_ n1_ n2_; clear ho hb hg hat))
                                go_roundg kj7
                                case measure => have := HK1.out; have := HK2.out; have := HJ7.out; omega
                                case rel => exact ⟨(y122), (y121), (wrap64 (x6_1 + 1)), (by first | rfl | (simp; done) | (simp [*]; done)), H', ⟨by have := HK1.out; have := HK2.out; have := HJ7.out; omega⟩, ⟨by (with_reducible repeat (first | apply Kd.R_alloc | apply Kd.R_drewN | apply Kd.R_drew)); exact HO124.out⟩, ⟨by (with_reducible repeat (first | apply Kd.R_alloc | apply Kd.R_drewN | apply Kd.R_drew)); exact HO_5.out⟩, ⟨by repeat (first | (with_reducible first | exact HB.out | apply below_alloc | apply pw_below_drewN | apply below_drew1) | exact HB.out)⟩⟩
                              · rw [if_neg c33] at H
                                exact absurd H (by simp)
                            · rw [if_neg c31] at H
                              exact absurd H (by simp)
                          · rw [if_neg c30] at H
                            exact absurd H (by simp)
            · rw [if_neg c7] at H
              have c7b0 : decide (x6_1 < (l0.length : Int)) = false := decide_eq_false c7
              clear c7
              simp only [Option.some.injEq, Prod.mk.injEq] at H
              obtain ⟨rfl, rfl⟩ := H
              go_wp2
              go_ret2
              exact ⟨_, by first | rfl | (simp [errW_none, errW_some] <;> rfl) | (simp [*, errW_none, errW_some] <;> rfl), by (with_reducible repeat (first | apply Kd.R_alloc | apply Kd.R_drewN | apply Kd.R_drew)); exact HO_4.out, by repeat (first | (with_reducible first | exact HB.out | apply below_alloc | apply pw_below_drewN | apply below_drew1) | exact HB.out)⟩
      · rw [if_neg c4] at H
        exact absurd H (by simp)
    · rw [if_neg c3] at H
      exact absurd H (by simp)

end Go.Proofs.Ytbadlkhelhomjaa.Pr
