/- What the program's functions compute, and that they compute it: printed out of the translation by a program of this session's (px.py, over the kit's printer). Conditions: none. -/
import Derived.Test.YtgmflfbhifdacaaPr0
import Derived.Test.YtgmflfbhifdacaaPr1
namespace Go.Proofs.Ytgmflfbhifdacaa.Pr
open Go.RowKit Go.Proofs.YtgmflfbhifdacaaW.PrintWords Go.Proofs.YtgmflfbhifdacaaW.PrintLast Go.Proofs.YtgmflfbhifdacaaW.PrintMore
attribute [local go_sem] max2_int min2_int max_two min_two max_three min_three max_four min_four   -- for this text's walks alone
set_option linter.unusedVariables false
set_option linter.unusedSimpArgs false

attribute [local go_sem high] eqA25
/-! ### ferruleref12_Has: function 19 -/
def ferruleref12_Has.l0 : Nat → List (S40) → ByteArray → Bool → Int → Int → Int → Option (Bool)
  | 0, _, _, _, _, _, _ => none
  | k + 1, x0, x2, x3, x9, x203000, x203001 => if x9 < (x0.length : Int) then (if 0 ≤ x9 then (if (((rd_T40 x0 x9).f1.f0) == x203000 && (((rd_T40 x0 x9).f1.f1) == x203001)) = true then (if ((rd_T40 x0 x9).f0).toList = x2.toList then (if (rd_T40 x0 x9).f2 = true then (some true) else (if x3 = true then (ferruleref12_Has.l0 k x0 x2 x3 (wrap64 (x9 + 1)) x203000 x203001) else (some true))) else (ferruleref12_Has.l0 k x0 x2 x3 (wrap64 (x9 + 1)) x203000 x203001)) else (ferruleref12_Has.l0 k x0 x2 x3 (wrap64 (x9 + 1)) x203000 x203001)) else (none)) else (some false)
def ferruleref12_Has.f (k : Nat) (l0 : List (S40)) (a1_0 : Int) (a1_1 : Int) (a2 : ByteArray) (a3 : Bool) : Option (Bool) := ferruleref12_Has.l0 k l0 a2 a3 0 a1_0 a1_1
theorem ferruleref12_Has.mono_l : ∀ k, (∀ y0 y1 y2 y3 y4 y5, LeO (ferruleref12_Has.l0 k y0 y1 y2 y3 y4 y5) (ferruleref12_Has.l0 (k + 1) y0 y1 y2 y3 y4 y5))
  | 0 => fun _ _ _ _ _ _ r h => by simp [ferruleref12_Has.l0] at h
  | k + 1 => by
    have ih0 := ferruleref12_Has.mono_l k
    · intro y0 y1 y2 y3 y4 y5
      unfold ferruleref12_Has.l0
      repeat' first
      | (with_reducible exact ih0 _ _ _ _ _ _)
      | (with_reducible exact LeO.refl _)
      | (with_reducible exact LeO.none _)
      | (with_reducible refine LeO.ite ?_ ?_)
      | (with_reducible refine LeO.bind ?_ (fun _ => ?_))
      | exact ih0 _ _ _ _ _ _
      | exact LeO.none _
      | refine LeO.ite ?_ ?_
      | refine LeO.bind ?_ (fun _ => ?_)
theorem ferruleref12_Has.mono : ∀ a0 a1 a2 a3 a4 k, LeO (ferruleref12_Has.f k a0 a1 a2 a3 a4) (ferruleref12_Has.f (k + 1) a0 a1 a2 a3 a4) := by
  intro a0 a1 a2 a3 a4 k
  have ih0 := ferruleref12_Has.mono_l k
  unfold ferruleref12_Has.f
  repeat' first
      | (with_reducible exact ih0 _ _ _ _ _ _)
      | (with_reducible exact LeO.refl _)
      | (with_reducible exact LeO.none _)
      | (with_reducible refine LeO.ite ?_ ?_)
      | (with_reducible refine LeO.bind ?_ (fun _ => ?_))
      | exact ih0 _ _ _ _ _ _
      | exact LeO.none _
      | refine LeO.ite ?_ ?_
      | refine LeO.bind ?_ (fun _ => ?_)
set_option maxHeartbeats 8000000 in
set_option maxRecDepth 100000 in
theorem ferruleref12_Has.calls (k : Nat) (A0 : Option Addr) (c0 : Nat) (l0 : List (S40)) (a1_0 : Int) (a1_1 : Int) (a2 : ByteArray) (a3 : Bool) (r : Bool) (w : World) (hr0 : Kd.C k40 w A0 l0.length l0) (hc0 : l0.length ≤ c0) (h : ferruleref12_Has.f k l0 a1_0 a1_1 a2 a3 = some r) :
    Calls Try.prog 19 #[.slice A0 l0.length c0, .agg #[.int .u64 a1_0, .int .u64 a1_1], .string a2, .bool a3] w fun e w' => e = .returned (.bool r) ∧ Below w.heap.size w w' := by
  have hu25 := Try.underlying25
  have HR0 := Aside0.mk hr0
  have HC0 := Aside0.mk hc0
  clear hr0 hc0
  have HB := Aside0.mk (Below.refl w.heap.size w)
  have H : (ferruleref12_Has.l0 k l0 a2 a3 0 a1_0 a1_1) = some r := h
  clear h
  have H' := Aside0.mk H
  clear H
  go_enter Try.func19, Try.ntmps19
  go_wp2_with (first | ((with_reducible refine gate_dst (N := 5) rfl ?_); refine box_event ?hg (N := 5) ?hd (cs := #[.int .u64 a1_0, .int .u64 a1_1]) (t := 25) ?hr ?_; (case hd => rfl); (case hg => rfl); (case hr => first | (go_simp; done) | (go_simp; rfl)); intro gb202 hg w5 hbox hb; have n0_ := Aside0.mk (below_step (by repeat (first | (with_reducible first | exact HB.out | apply below_alloc | apply pw_below_drewN | apply below_drew1) | exact HB.out)) hb); have n1_ := Aside0.mk (hbox); have n2_ := Aside0.mk ((by rw [hg]; exact (below_size (by repeat (first | (with_reducible first | exact HB.out | apply below_alloc | apply pw_below_drewN | apply below_drew1) | exact HB.out))) : w.heap.size ≤ gb202)); have n3_ := Aside0.mk ((by rw [hg]; exact (below_size (by repeat (first | (with_reducible first | exact HB.out | apply below_alloc | apply pw_below_drewN | apply below_drew1) | exact HB.out))) : w.heap.size ≤ gb202)); clear HB; have HB := n0_; have BK202 := n1_; have GW202 := n2_; have GE202 := n3_; clear n0_ n1_ n2_ n3_; clear hb hbox hg))
  repeat (go_quiet (first | ((with_reducible refine gate_dst (N := 5) rfl ?_); refine box_event ?hg (N := 5) ?hd (cs := #[.int .u64 a1_0, .int .u64 a1_1]) (t := 25) ?hr ?_; (case hd => rfl); (case hg => rfl); (case hr => first | (go_simp; done) | (go_simp; rfl)); intro gb202 hg w5 hbox hb; have n0_ := Aside0.mk (below_step (by repeat (first | (with_reducible first | exact HB.out | apply below_alloc | apply pw_below_drewN | apply below_drew1) | exact HB.out)) hb); have n1_ := Aside0.mk (hbox); have n2_ := Aside0.mk ((by rw [hg]; exact (below_size (by repeat (first | (with_reducible first | exact HB.out | apply below_alloc | apply pw_below_drewN | apply below_drew1) | exact HB.out))) : w.heap.size ≤ gb202)); have n3_ := Aside0.mk ((by rw [hg]; exact (below_size (by repeat (first | (with_reducible first | exact HB.out | apply below_alloc | apply pw_below_drewN | apply below_drew1) | exact HB.out))) : w.heap.size ≤ gb202)); clear HB; have HB := n0_; have BK202 := n1_; have GW202 := n2_; have GE202 := n3_; clear n0_ n1_ n2_ n3_; clear hb hbox hg)); try go_wp2_with (first | ((with_reducible refine gate_dst (N := 5) rfl ?_); refine box_event ?hg (N := 5) ?hd (cs := #[.int .u64 a1_0, .int .u64 a1_1]) (t := 25) ?hr ?_; (case hd => rfl); (case hg => rfl); (case hr => first | (go_simp; done) | (go_simp; rfl)); intro gb202 hg w5 hbox hb; have n0_ := Aside0.mk (below_step (by repeat (first | (with_reducible first | exact HB.out | apply below_alloc | apply pw_below_drewN | apply below_drew1) | exact HB.out)) hb); have n1_ := Aside0.mk (hbox); have n2_ := Aside0.mk ((by rw [hg]; exact (below_size (by repeat (first | (with_reducible first | exact HB.out | apply below_alloc | apply pw_below_drewN | apply below_drew1) | exact HB.out))) : w.heap.size ≤ gb202)); have n3_ := Aside0.mk ((by rw [hg]; exact (below_size (by repeat (first | (with_reducible first | exact HB.out | apply below_alloc | apply pw_below_drewN | apply below_drew1) | exact HB.out))) : w.heap.size ≤ gb202)); clear HB; have HB := n0_; have BK202 := n1_; have GW202 := n2_; have GE202 := n3_; clear n0_ n1_ n2_ n3_; clear hb hbox hg)))
  go_loopg [9] k (fun kq v9 w' => ∃ (x9_1 : Int), v9 = .int .i64 x9_1 ∧ Aside0 (ferruleref12_Has.l0 kq l0 a2 a3 x9_1 a1_0 a1_1 = some r) ∧ Aside0 (kq ≤ k) ∧ Aside0 (w'.heap[gb202]? = some (.cells #[.int .u64 a1_0, .int .u64 a1_1] 25 (0, 0))) ∧ Aside0 (Below w.heap.size w w'))
  case atStart => exact ⟨(0), (by first | rfl | (simp; done) | (simp [*]; done)), H', ⟨Nat.le_refl _⟩, ⟨by (with_reducible repeat (first | refine blk_drewN ?_ _ | refine blk_drew ?_ | refine blk_alloc ?_ _)); exact BK202.out⟩, ⟨by repeat (first | (with_reducible first | exact HB.out | apply below_alloc | apply pw_below_drewN | apply below_drew1 | refine below_set ?_ GE202.out) | exact HB.out)⟩⟩
  case round =>
    clear H'
    try clear c1
    try clear p2
    obtain ⟨x9_1, rfl, HA, HK1, BK202, HB⟩ := hrel
    cases gk with
    | zero => exact absurd HA.out (by simp [ferruleref12_Has.l0])
    | succ k1 =>
      have H := HA.out
      clear HA
      simp only [ferruleref12_Has.l0] at H
      by_cases c6 : x9_1 < (l0.length : Int)
      · rw [if_pos c6] at H
        have c6b0 : decide (x9_1 < (l0.length : Int)) = true := decide_eq_true c6
        clear c6
        by_cases c7 : 0 ≤ x9_1
        · rw [if_pos c7] at H
          have c7b0 : decide (0 ≤ x9_1) = true := decide_eq_true c7
          clear c7
          by_cases c8 : (((rd_T40 l0 x9_1).f1.f0) == a1_0 && (((rd_T40 l0 x9_1).f1.f1) == a1_1)) = true
          · rw [if_pos c8] at H
            have c8b0 : (((rd_T40 l0 x9_1).f1.f0) == a1_0 && (((rd_T40 l0 x9_1).f1.f1) == a1_1)) = true := c8
            (try (have c8b1 : decide (((rd_T40 l0 x9_1).f1.f0) = a1_0 && (((rd_T40 l0 x9_1).f1.f1) == a1_1)) = true := by simpa using c8))
            (try (have c8b2 : (((rd_T40 l0 x9_1).f1.f0) == a1_0 && (((rd_T40 l0 x9_1).f1.f1) == a1_1)) = true := by simpa using c8))
            clear c8
            by_cases c9 : ((rd_T40 l0 x9_1).f0).toList = a2.toList
            · rw [if_pos c9] at H
              have c9b0 : (((rd_T40 l0 x9_1).f0).toList == a2.toList) = true := beq_iff_eq.mpr c9
              have c9b1 : (((rd_T40 l0 x9_1).f0).toList != a2.toList) = false := bne_eq_false_iff_eq.mpr c9
              clear c9
              obtain ⟨bq10, hbq10⟩ : ∃ b_ : Bool, b_ = ((rd_T40 l0 x9_1).f2) := ⟨_, rfl⟩
              replace H : (if bq10 = true then (some true) else (if a3 = true then (ferruleref12_Has.l0 k1 l0 a2 a3 (wrap64 (x9_1 + 1)) a1_0 a1_1) else (some true))) = some r := by rw [← hbq10] at H; exact H
              have Nbq10 := Aside0.mk hbq10
              clear hbq10
              by_cases c11 : bq10 = true
              · subst c11
                have H1 : (some true) = some r := by rw [if_pos rfl] at H; exact H
                clear H
                have H := H1
                clear H1
                obtain rfl := Option.some.inj H
                have p203 : 0 ≤ (x9_1 : Int) := of_decide_eq_true (by first | (with_reducible assumption) | assumption)
                have q203 : x9_1 < (l0.length : Int) := of_decide_eq_true (by first | (with_reducible assumption) | assumption)
                obtain ⟨ad203, e203, hx203_0, hx203_1, hx203_2, hx203_3⟩ := at_T40 HR0.out x9_1 p203 q203
                (try rw [← Nbq10.out] at hx203_3)
                cases e203
                replace hx203_0 := (HB.out.cell (World.block_lt_of_cell? w _ hx203_0)).trans hx203_0
                replace hx203_1 := (HB.out.cell (World.block_lt_of_cell? w _ hx203_1)).trans hx203_1
                replace hx203_2 := (HB.out.cell (World.block_lt_of_cell? w _ hx203_2)).trans hx203_2
                replace hx203_3 := (HB.out.cell (World.block_lt_of_cell? w _ hx203_3)).trans hx203_3
                replace p203 := eq_true p203
                replace q203 := eq_true q203
                have hcz12_0 : wr.cell? ⟨gb202, 0, none⟩ = some (.int .u64 a1_0) := (blk_cell BK202.out 0).trans rfl
                have hcz12_1 : wr.cell? ⟨gb202, 1, none⟩ = some (.int .u64 a1_1) := (blk_cell BK202.out 1).trans rfl
                have hfz12_0 := blk_frozen BK202.out 0
                have hfz12_1 := blk_frozen BK202.out 1
                have p204 : 0 ≤ (x9_1 : Int) := of_decide_eq_true (by first | (with_reducible assumption) | assumption)
                have q204 : x9_1 < (l0.length : Int) := of_decide_eq_true (by first | (with_reducible assumption) | assumption)
                obtain ⟨ad204, e204, hx204_0, hx204_1, hx204_2, hx204_3⟩ := at_T40 HR0.out x9_1 p204 q204
                (try rw [← Nbq10.out] at hx204_3)
                obtain rfl : ad203 = ad204 := (by injection e204)
                replace hx204_0 := (HB.out.cell (World.block_lt_of_cell? w _ hx204_0)).trans hx204_0
                replace hx204_1 := (HB.out.cell (World.block_lt_of_cell? w _ hx204_1)).trans hx204_1
                replace hx204_2 := (HB.out.cell (World.block_lt_of_cell? w _ hx204_2)).trans hx204_2
                replace hx204_3 := (HB.out.cell (World.block_lt_of_cell? w _ hx204_3)).trans hx204_3
                replace p204 := eq_true p204
                replace q204 := eq_true q204
                have p205 : 0 ≤ (x9_1 : Int) := of_decide_eq_true (by first | (with_reducible assumption) | assumption)
                have q205 : x9_1 < (l0.length : Int) := of_decide_eq_true (by first | (with_reducible assumption) | assumption)
                obtain ⟨ad205, e205, hx205_0, hx205_1, hx205_2, hx205_3⟩ := at_T40 HR0.out x9_1 p205 q205
                (try rw [← Nbq10.out] at hx205_3)
                obtain rfl : ad203 = ad205 := (by injection e205)
                replace hx205_0 := (HB.out.cell (World.block_lt_of_cell? w _ hx205_0)).trans hx205_0
                replace hx205_1 := (HB.out.cell (World.block_lt_of_cell? w _ hx205_1)).trans hx205_1
                replace hx205_2 := (HB.out.cell (World.block_lt_of_cell? w _ hx205_2)).trans hx205_2
                replace hx205_3 := (HB.out.cell (World.block_lt_of_cell? w _ hx205_3)).trans hx205_3
                replace p205 := eq_true p205
                replace q205 := eq_true q205
                go_wp2
                repeat (go_quiet (fail); try go_wp2)
                go_ret
                exact ⟨by first | rfl | (simp [errW_none, errW_some] <;> rfl) | (simp [*, errW_none, errW_some] <;> rfl), by repeat (first | (with_reducible first | exact HB.out | apply below_alloc | apply pw_below_drewN | apply below_drew1 | refine below_set ?_ GE202.out) | exact HB.out)⟩
              · replace c11 := Bool.eq_false_iff.mpr c11
                subst c11
                have H1 : (if a3 = true then (ferruleref12_Has.l0 k1 l0 a2 a3 (wrap64 (x9_1 + 1)) a1_0 a1_1) else (some true)) = some r := by rw [if_neg (show ¬ (false = true) by decide)] at H; exact H
                clear H
                have H := H1
                clear H1
                by_cases c13 : a3 = true
                · subst c13
                  have H1 : (ferruleref12_Has.l0 k1 l0 a2 true (wrap64 (x9_1 + 1)) a1_0 a1_1) = some r := by rw [if_pos rfl] at H; exact H
                  clear H
                  have H := H1
                  clear H1
                  have H' := Aside0.mk H
                  clear H
                  have p203 : 0 ≤ (x9_1 : Int) := of_decide_eq_true (by first | (with_reducible assumption) | assumption)
                  have q203 : x9_1 < (l0.length : Int) := of_decide_eq_true (by first | (with_reducible assumption) | assumption)
                  obtain ⟨ad203, e203, hx203_0, hx203_1, hx203_2, hx203_3⟩ := at_T40 HR0.out x9_1 p203 q203
                  (try rw [← Nbq10.out] at hx203_3)
                  cases e203
                  replace hx203_0 := (HB.out.cell (World.block_lt_of_cell? w _ hx203_0)).trans hx203_0
                  replace hx203_1 := (HB.out.cell (World.block_lt_of_cell? w _ hx203_1)).trans hx203_1
                  replace hx203_2 := (HB.out.cell (World.block_lt_of_cell? w _ hx203_2)).trans hx203_2
                  replace hx203_3 := (HB.out.cell (World.block_lt_of_cell? w _ hx203_3)).trans hx203_3
                  replace p203 := eq_true p203
                  replace q203 := eq_true q203
                  have hcz14_0 : wr.cell? ⟨gb202, 0, none⟩ = some (.int .u64 a1_0) := (blk_cell BK202.out 0).trans rfl
                  have hcz14_1 : wr.cell? ⟨gb202, 1, none⟩ = some (.int .u64 a1_1) := (blk_cell BK202.out 1).trans rfl
                  have hfz14_0 := blk_frozen BK202.out 0
                  have hfz14_1 := blk_frozen BK202.out 1
                  have p204 : 0 ≤ (x9_1 : Int) := of_decide_eq_true (by first | (with_reducible assumption) | assumption)
                  have q204 : x9_1 < (l0.length : Int) := of_decide_eq_true (by first | (with_reducible assumption) | assumption)
                  obtain ⟨ad204, e204, hx204_0, hx204_1, hx204_2, hx204_3⟩ := at_T40 HR0.out x9_1 p204 q204
                  (try rw [← Nbq10.out] at hx204_3)
                  obtain rfl : ad203 = ad204 := (by injection e204)
                  replace hx204_0 := (HB.out.cell (World.block_lt_of_cell? w _ hx204_0)).trans hx204_0
                  replace hx204_1 := (HB.out.cell (World.block_lt_of_cell? w _ hx204_1)).trans hx204_1
                  replace hx204_2 := (HB.out.cell (World.block_lt_of_cell? w _ hx204_2)).trans hx204_2
                  replace hx204_3 := (HB.out.cell (World.block_lt_of_cell? w _ hx204_3)).trans hx204_3
                  replace p204 := eq_true p204
                  replace q204 := eq_true q204
                  have p205 : 0 ≤ (x9_1 : Int) := of_decide_eq_true (by first | (with_reducible assumption) | assumption)
                  have q205 : x9_1 < (l0.length : Int) := of_decide_eq_true (by first | (with_reducible assumption) | assumption)
                  obtain ⟨ad205, e205, hx205_0, hx205_1, hx205_2, hx205_3⟩ := at_T40 HR0.out x9_1 p205 q205
                  (try rw [← Nbq10.out] at hx205_3)
                  obtain rfl : ad203 = ad205 := (by injection e205)
                  replace hx205_0 := (HB.out.cell (World.block_lt_of_cell? w _ hx205_0)).trans hx205_0
                  replace hx205_1 := (HB.out.cell (World.block_lt_of_cell? w _ hx205_1)).trans hx205_1
                  replace hx205_2 := (HB.out.cell (World.block_lt_of_cell? w _ hx205_2)).trans hx205_2
                  replace hx205_3 := (HB.out.cell (World.block_lt_of_cell? w _ hx205_3)).trans hx205_3
                  replace p205 := eq_true p205
                  replace q205 := eq_true q205
                  go_wp2
                  repeat (go_quiet (fail); try go_wp2)
                  go_roundg k1
                  case measure => have := HK1.out; omega
                  case rel => exact ⟨(wrap64 (x9_1 + 1)), (by first | rfl | (simp; done) | (simp [*]; done)), H', ⟨by have := HK1.out; omega⟩, ⟨by (with_reducible repeat (first | refine blk_drewN ?_ _ | refine blk_drew ?_ | refine blk_alloc ?_ _)); exact BK202.out⟩, ⟨by repeat (first | (with_reducible first | exact HB.out | apply below_alloc | apply pw_below_drewN | apply below_drew1 | refine below_set ?_ GE202.out) | exact HB.out)⟩⟩
                · replace c13 := Bool.eq_false_iff.mpr c13
                  subst c13
                  have H1 : (some true) = some r := by rw [if_neg (show ¬ (false = true) by decide)] at H; exact H
                  clear H
                  have H := H1
                  clear H1
                  obtain rfl := Option.some.inj H
                  have p203 : 0 ≤ (x9_1 : Int) := of_decide_eq_true (by first | (with_reducible assumption) | assumption)
                  have q203 : x9_1 < (l0.length : Int) := of_decide_eq_true (by first | (with_reducible assumption) | assumption)
                  obtain ⟨ad203, e203, hx203_0, hx203_1, hx203_2, hx203_3⟩ := at_T40 HR0.out x9_1 p203 q203
                  (try rw [← Nbq10.out] at hx203_3)
                  cases e203
                  replace hx203_0 := (HB.out.cell (World.block_lt_of_cell? w _ hx203_0)).trans hx203_0
                  replace hx203_1 := (HB.out.cell (World.block_lt_of_cell? w _ hx203_1)).trans hx203_1
                  replace hx203_2 := (HB.out.cell (World.block_lt_of_cell? w _ hx203_2)).trans hx203_2
                  replace hx203_3 := (HB.out.cell (World.block_lt_of_cell? w _ hx203_3)).trans hx203_3
                  replace p203 := eq_true p203
                  replace q203 := eq_true q203
                  have hcz15_0 : wr.cell? ⟨gb202, 0, none⟩ = some (.int .u64 a1_0) := (blk_cell BK202.out 0).trans rfl
                  have hcz15_1 : wr.cell? ⟨gb202, 1, none⟩ = some (.int .u64 a1_1) := (blk_cell BK202.out 1).trans rfl
                  have hfz15_0 := blk_frozen BK202.out 0
                  have hfz15_1 := blk_frozen BK202.out 1
                  have p204 : 0 ≤ (x9_1 : Int) := of_decide_eq_true (by first | (with_reducible assumption) | assumption)
                  have q204 : x9_1 < (l0.length : Int) := of_decide_eq_true (by first | (with_reducible assumption) | assumption)
                  obtain ⟨ad204, e204, hx204_0, hx204_1, hx204_2, hx204_3⟩ := at_T40 HR0.out x9_1 p204 q204
                  (try rw [← Nbq10.out] at hx204_3)
                  obtain rfl : ad203 = ad204 := (by injection e204)
                  replace hx204_0 := (HB.out.cell (World.block_lt_of_cell? w _ hx204_0)).trans hx204_0
                  replace hx204_1 := (HB.out.cell (World.block_lt_of_cell? w _ hx204_1)).trans hx204_1
                  replace hx204_2 := (HB.out.cell (World.block_lt_of_cell? w _ hx204_2)).trans hx204_2
                  replace hx204_3 := (HB.out.cell (World.block_lt_of_cell? w _ hx204_3)).trans hx204_3
                  replace p204 := eq_true p204
                  replace q204 := eq_true q204
                  have p205 : 0 ≤ (x9_1 : Int) := of_decide_eq_true (by first | (with_reducible assumption) | assumption)
                  have q205 : x9_1 < (l0.length : Int) := of_decide_eq_true (by first | (with_reducible assumption) | assumption)
                  obtain ⟨ad205, e205, hx205_0, hx205_1, hx205_2, hx205_3⟩ := at_T40 HR0.out x9_1 p205 q205
                  (try rw [← Nbq10.out] at hx205_3)
                  obtain rfl : ad203 = ad205 := (by injection e205)
                  replace hx205_0 := (HB.out.cell (World.block_lt_of_cell? w _ hx205_0)).trans hx205_0
                  replace hx205_1 := (HB.out.cell (World.block_lt_of_cell? w _ hx205_1)).trans hx205_1
                  replace hx205_2 := (HB.out.cell (World.block_lt_of_cell? w _ hx205_2)).trans hx205_2
                  replace hx205_3 := (HB.out.cell (World.block_lt_of_cell? w _ hx205_3)).trans hx205_3
                  replace p205 := eq_true p205
                  replace q205 := eq_true q205
                  go_wp2
                  repeat (go_quiet (fail); try go_wp2)
                  go_ret
                  exact ⟨by first | rfl | (simp [errW_none, errW_some] <;> rfl) | (simp [*, errW_none, errW_some] <;> rfl), by repeat (first | (with_reducible first | exact HB.out | apply below_alloc | apply pw_below_drewN | apply below_drew1 | refine below_set ?_ GE202.out) | exact HB.out)⟩
            · rw [if_neg c9] at H
              have c9b0 : (((rd_T40 l0 x9_1).f0).toList == a2.toList) = false := beq_eq_false_iff_ne.mpr c9
              have c9b1 : (((rd_T40 l0 x9_1).f0).toList != a2.toList) = true := bne_iff_ne.mpr c9
              have H' := Aside0.mk H
              clear H
              have p203 : 0 ≤ (x9_1 : Int) := of_decide_eq_true (by first | (with_reducible assumption) | assumption)
              have q203 : x9_1 < (l0.length : Int) := of_decide_eq_true (by first | (with_reducible assumption) | assumption)
              obtain ⟨ad203, e203, hx203_0, hx203_1, hx203_2, hx203_3⟩ := at_T40 HR0.out x9_1 p203 q203
              cases e203
              replace hx203_0 := (HB.out.cell (World.block_lt_of_cell? w _ hx203_0)).trans hx203_0
              replace hx203_1 := (HB.out.cell (World.block_lt_of_cell? w _ hx203_1)).trans hx203_1
              replace hx203_2 := (HB.out.cell (World.block_lt_of_cell? w _ hx203_2)).trans hx203_2
              replace hx203_3 := (HB.out.cell (World.block_lt_of_cell? w _ hx203_3)).trans hx203_3
              replace p203 := eq_true p203
              replace q203 := eq_true q203
              have hcz16_0 : wr.cell? ⟨gb202, 0, none⟩ = some (.int .u64 a1_0) := (blk_cell BK202.out 0).trans rfl
              have hcz16_1 : wr.cell? ⟨gb202, 1, none⟩ = some (.int .u64 a1_1) := (blk_cell BK202.out 1).trans rfl
              have hfz16_0 := blk_frozen BK202.out 0
              have hfz16_1 := blk_frozen BK202.out 1
              have p204 : 0 ≤ (x9_1 : Int) := of_decide_eq_true (by first | (with_reducible assumption) | assumption)
              have q204 : x9_1 < (l0.length : Int) := of_decide_eq_true (by first | (with_reducible assumption) | assumption)
              obtain ⟨ad204, e204, hx204_0, hx204_1, hx204_2, hx204_3⟩ := at_T40 HR0.out x9_1 p204 q204
              obtain rfl : ad203 = ad204 := (by injection e204)
              replace hx204_0 := (HB.out.cell (World.block_lt_of_cell? w _ hx204_0)).trans hx204_0
              replace hx204_1 := (HB.out.cell (World.block_lt_of_cell? w _ hx204_1)).trans hx204_1
              replace hx204_2 := (HB.out.cell (World.block_lt_of_cell? w _ hx204_2)).trans hx204_2
              replace hx204_3 := (HB.out.cell (World.block_lt_of_cell? w _ hx204_3)).trans hx204_3
              replace p204 := eq_true p204
              replace q204 := eq_true q204
              go_wp2
              repeat (go_quiet (fail); try go_wp2)
              go_roundg k1
              case measure => have := HK1.out; omega
              case rel => exact ⟨(wrap64 (x9_1 + 1)), (by first | rfl | (simp; done) | (simp [*]; done)), H', ⟨by have := HK1.out; omega⟩, ⟨by (with_reducible repeat (first | refine blk_drewN ?_ _ | refine blk_drew ?_ | refine blk_alloc ?_ _)); exact BK202.out⟩, ⟨by repeat (first | (with_reducible first | exact HB.out | apply below_alloc | apply pw_below_drewN | apply below_drew1 | refine below_set ?_ GE202.out) | exact HB.out)⟩⟩
          · rw [if_neg c8] at H
            have c8b0 : (((rd_T40 l0 x9_1).f1.f0) == a1_0 && (((rd_T40 l0 x9_1).f1.f1) == a1_1)) = false := by simpa using c8
            (try (have c8b1 : decide (((rd_T40 l0 x9_1).f1.f0) = a1_0 && (((rd_T40 l0 x9_1).f1.f1) == a1_1)) = false := by simpa using c8))
            (try (have c8b2 : (((rd_T40 l0 x9_1).f1.f0) == a1_0 && (((rd_T40 l0 x9_1).f1.f1) == a1_1)) = false := by simpa using c8))
            (try (have c8b3 : ¬ (((rd_T40 l0 x9_1).f1.f0) = a1_0 && (((rd_T40 l0 x9_1).f1.f1) == a1_1)) := by simpa using c8))
            clear c8
            have H' := Aside0.mk H
            clear H
            have p203 : 0 ≤ (x9_1 : Int) := of_decide_eq_true (by first | (with_reducible assumption) | assumption)
            have q203 : x9_1 < (l0.length : Int) := of_decide_eq_true (by first | (with_reducible assumption) | assumption)
            obtain ⟨ad203, e203, hx203_0, hx203_1, hx203_2, hx203_3⟩ := at_T40 HR0.out x9_1 p203 q203
            cases e203
            replace hx203_0 := (HB.out.cell (World.block_lt_of_cell? w _ hx203_0)).trans hx203_0
            replace hx203_1 := (HB.out.cell (World.block_lt_of_cell? w _ hx203_1)).trans hx203_1
            replace hx203_2 := (HB.out.cell (World.block_lt_of_cell? w _ hx203_2)).trans hx203_2
            replace hx203_3 := (HB.out.cell (World.block_lt_of_cell? w _ hx203_3)).trans hx203_3
            replace p203 := eq_true p203
            replace q203 := eq_true q203
            have hcz17_0 : wr.cell? ⟨gb202, 0, none⟩ = some (.int .u64 a1_0) := (blk_cell BK202.out 0).trans rfl
            have hcz17_1 : wr.cell? ⟨gb202, 1, none⟩ = some (.int .u64 a1_1) := (blk_cell BK202.out 1).trans rfl
            have hfz17_0 := blk_frozen BK202.out 0
            have hfz17_1 := blk_frozen BK202.out 1
            go_wp2
            repeat (go_quiet (fail); try go_wp2)
            go_roundg k1
            case measure => have := HK1.out; omega
            case rel => exact ⟨(wrap64 (x9_1 + 1)), (by first | rfl | (simp; done) | (simp [*]; done)), H', ⟨by have := HK1.out; omega⟩, ⟨by (with_reducible repeat (first | refine blk_drewN ?_ _ | refine blk_drew ?_ | refine blk_alloc ?_ _)); exact BK202.out⟩, ⟨by repeat (first | (with_reducible first | exact HB.out | apply below_alloc | apply pw_below_drewN | apply below_drew1 | refine below_set ?_ GE202.out) | exact HB.out)⟩⟩
        · rw [if_neg c7] at H
          exact absurd H (by simp)
      · rw [if_neg c6] at H
        have c6b0 : decide (x9_1 < (l0.length : Int)) = false := decide_eq_false c6
        clear c6
        obtain rfl := Option.some.inj H
        go_wp2
        repeat (go_quiet (fail); try go_wp2)
        go_ret
        exact ⟨by first | rfl | (simp [errW_none, errW_some] <;> rfl) | (simp [*, errW_none, errW_some] <;> rfl), by repeat (first | (with_reducible first | exact HB.out | apply below_alloc | apply pw_below_drewN | apply below_drew1 | refine below_set ?_ GE202.out) | exact HB.out)⟩

end Go.Proofs.Ytgmflfbhifdacaa.Pr
