/- What the program's functions compute, and that they compute it: printed out of the translation by a program of this session's (px.py, over the kit's printer). Conditions: none. -/
import Derived.Test.YtbejichfgednhaaPr0
namespace Go.Proofs.Ytbejichfgednhaa.Pr
open Go.RowKit Go.Proofs.YtbejichfgednhaaW.PrintWords Go.Proofs.YtbejichfgednhaaW.PrintLast Go.Proofs.YtbejichfgednhaaW.PrintMore
attribute [local go_sem] max2_int min2_int max_two min_two max_three min_three max_four min_four   -- for this text's walks alone
set_option linter.unusedVariables false
set_option linter.unusedSimpArgs false

/-! ### ferruleref05_From: function 17 -/
mutual
def ferruleref05_From.l0 : Nat → Int → Int → List (S36) → Int → Int → Int → ByteArray → List (S36) → Option ((List (S36)) × Bool)
  | 0, _, _, _, _, _, _, _, _ => none
  | k + 1, x1, x2, x8, x9, x182000, x182001, x182002, x182003 => if x9 < (x182003.length : Int) then (ferruleref05_From.j1 k x1 x2 x8 x9 (decide ((x8.length : Int) < x2)) x182000 x182001 x182002 x182003) else (ferruleref05_From.j1 k x1 x2 x8 x9 false x182000 x182001 x182002 x182003)
def ferruleref05_From.j1 : Nat → Int → Int → List (S36) → Int → Bool → Int → Int → ByteArray → List (S36) → Option ((List (S36)) × Bool)
  | 0, _, _, _, _, _, _, _, _, _ => none
  | k + 1, x1, x2, x8, x9, x24, x182000, x182001, x182002, x182003 => if x24 = true then (if (IntKind.u64.wrap (x9)) ≥ (IntKind.u64.wrap ((IntKind.u64.wrap (x1 - x182000)) - 1)) then (if 0 ≤ x9 then (if x9 < (x182003.length : Int) then (if x8.length < 5864062014805 then (ferruleref05_From.l0 k x1 x2 (x8 ++ [(⟨(rd_T36 x182003 x9).f0, (rd_T36 x182003 x9).f1⟩ : S36)]) (wrap64 (x9 + 1)) x182000 x182001 x182002 x182003) else (none)) else (none)) else (none)) else (ferruleref05_From.l0 k x1 x2 x8 (wrap64 (x9 + 1)) x182000 x182001 x182002 x182003)) else (some (x8, true))
end
def ferruleref05_From.f (k : Nat) (a0_0 : Int) (a0_1 : Int) (a0_2 : ByteArray) (l0_3 : List (S36)) (a1 : Int) (a2 : Int) : Option ((List (S36)) × Bool) := if a1 ≤ a0_0 then (some (([] : List (S36)), false)) else (ferruleref05_From.l0 k a1 a2 ([] : List (S36)) 0 a0_0 a0_1 a0_2 l0_3)
theorem ferruleref05_From.mono_l : ∀ k, (∀ y0 y1 y2 y3 y4 y5 y6 y7, LeO (ferruleref05_From.l0 k y0 y1 y2 y3 y4 y5 y6 y7) (ferruleref05_From.l0 (k + 1) y0 y1 y2 y3 y4 y5 y6 y7)) ∧ (∀ y0 y1 y2 y3 y4 y5 y6 y7 y8, LeO (ferruleref05_From.j1 k y0 y1 y2 y3 y4 y5 y6 y7 y8) (ferruleref05_From.j1 (k + 1) y0 y1 y2 y3 y4 y5 y6 y7 y8))
  | 0 => ⟨fun _ _ _ _ _ _ _ _ r h => by simp [ferruleref05_From.l0] at h, fun _ _ _ _ _ _ _ _ _ r h => by simp [ferruleref05_From.j1] at h⟩
  | k + 1 => by
    obtain ⟨ih0, ih1⟩ := ferruleref05_From.mono_l k
    refine ⟨?_, ?_⟩
    · intro y0 y1 y2 y3 y4 y5 y6 y7
      unfold ferruleref05_From.l0
      repeat' first
      | (with_reducible exact ih0 _ _ _ _ _ _ _ _)
      | (with_reducible exact ih1 _ _ _ _ _ _ _ _ _)
      | (with_reducible exact LeO.refl _)
      | (with_reducible exact LeO.none _)
      | (with_reducible refine LeO.ite ?_ ?_)
      | (with_reducible refine LeO.bind ?_ (fun _ => ?_))
      | exact ih0 _ _ _ _ _ _ _ _
      | exact ih1 _ _ _ _ _ _ _ _ _
      | exact LeO.none _
      | refine LeO.ite ?_ ?_
      | refine LeO.bind ?_ (fun _ => ?_)
    · intro y0 y1 y2 y3 y4 y5 y6 y7 y8
      unfold ferruleref05_From.j1
      repeat' first
      | (with_reducible exact ih0 _ _ _ _ _ _ _ _)
      | (with_reducible exact ih1 _ _ _ _ _ _ _ _ _)
      | (with_reducible exact LeO.refl _)
      | (with_reducible exact LeO.none _)
      | (with_reducible refine LeO.ite ?_ ?_)
      | (with_reducible refine LeO.bind ?_ (fun _ => ?_))
      | exact ih0 _ _ _ _ _ _ _ _
      | exact ih1 _ _ _ _ _ _ _ _ _
      | exact LeO.none _
      | refine LeO.ite ?_ ?_
      | refine LeO.bind ?_ (fun _ => ?_)
theorem ferruleref05_From.mono : ∀ a0 a1 a2 a3 a4 a5 k, LeO (ferruleref05_From.f k a0 a1 a2 a3 a4 a5) (ferruleref05_From.f (k + 1) a0 a1 a2 a3 a4 a5) := by
  intro a0 a1 a2 a3 a4 a5 k
  obtain ⟨ih0, ih1⟩ := ferruleref05_From.mono_l k
  unfold ferruleref05_From.f
  repeat' first
      | (with_reducible exact ih0 _ _ _ _ _ _ _ _)
      | (with_reducible exact ih1 _ _ _ _ _ _ _ _ _)
      | (with_reducible exact LeO.refl _)
      | (with_reducible exact LeO.none _)
      | (with_reducible refine LeO.ite ?_ ?_)
      | (with_reducible refine LeO.bind ?_ (fun _ => ?_))
      | exact ih0 _ _ _ _ _ _ _ _
      | exact ih1 _ _ _ _ _ _ _ _ _
      | exact LeO.none _
      | refine LeO.ite ?_ ?_
      | refine LeO.bind ?_ (fun _ => ?_)
set_option maxHeartbeats 8000000 in
set_option maxRecDepth 100000 in
theorem ferruleref05_From.calls (k : Nat) (a0_0 : Int) (a0_1 : Int) (a0_2 : ByteArray) (A0_3 : Option Addr) (c0_3 : Nat) (l0_3 : List (S36)) (a1 : Int) (a2 : Int) (r1 : List (S36)) (r2 : Bool) (w : World) (hr0_3 : Kd.C k36 w A0_3 l0_3.length l0_3) (hc0_3 : l0_3.length ≤ c0_3) (h : ferruleref05_From.f k a0_0 a0_1 a0_2 l0_3 a1 a2 = some (r1, r2)) :
    Calls Try.prog 17 #[.agg #[.int .u64 a0_0, .int .u64 a0_1, .string a0_2, .slice A0_3 l0_3.length c0_3], .int .u64 a1, .int .i64 a2] w fun e w' => ∃ v0_ : Value, e = .returned (.tuple #[v0_, .bool r2]) ∧ Kd.R k36 36 w' w.heap.size (fun _ => True) v0_ r1 ∧ Below w.heap.size w w' := by
  have hu25 := Try.underlying25
  have hu36 := Try.underlying36
  have HR0_3 := Aside0.mk hr0_3
  have HC0_3 := Aside0.mk hc0_3
  clear hr0_3 hc0_3
  have HB := Aside0.mk (Below.refl w.heap.size w)
  have H : (if a1 ≤ a0_0 then (some (([] : List (S36)), false)) else (ferruleref05_From.l0 k a1 a2 ([] : List (S36)) 0 a0_0 a0_1 a0_2 l0_3)) = some (r1, r2) := h
  clear h
  by_cases c4 : a1 ≤ a0_0
  · rw [if_pos c4] at H
    have c4b0 : decide (a1 ≤ a0_0) = true := decide_eq_true c4
    clear c4
    simp only [Option.some.injEq, Prod.mk.injEq] at H
    obtain ⟨rfl, rfl⟩ := H
    go_enter Try.func17, Try.ntmps17
    go_wp2_with (first | ((with_reducible refine gate_dst (N := 3) rfl ?_); (try (refine gate_guard (by rfl) ?_; dsimp only)); refine box_event ?hg (N := 3) ?hd (cs := #[.int .u64 a0_0, .int .u64 a0_1, .string a0_2, .slice A0_3 l0_3.length c0_3]) (t := 25) ?hr ?_; (case hd => rfl); (case hg => rfl); (case hr => first | (go_simp; done) | (go_simp; rfl)); intro gb181 hg w5 hbox hb; have n0_ := Aside0.mk (below_step (by repeat (first | (with_reducible first | exact HB.out | apply below_alloc | apply pw_below_drewN | apply below_drew1) | exact HB.out)) hb); have n1_ := Aside0.mk (hbox); have n2_ := Aside0.mk ((by rw [hg]; exact (below_size (by repeat (first | (with_reducible first | exact HB.out | apply below_alloc | apply pw_below_drewN | apply below_drew1) | exact HB.out))) : w.heap.size ≤ gb181)); have n3_ := Aside0.mk ((by rw [hg]; exact (below_size (by repeat (first | (with_reducible first | exact HB.out | apply below_alloc | apply pw_below_drewN | apply below_drew1) | exact HB.out))) : w.heap.size ≤ gb181)); clear HB; have HB := n0_; have BK181 := n1_; have GW181 := n2_; have GE181 := n3_; clear n0_ n1_ n2_ n3_; clear hb hbox hg; have hcz6_0 : w5.cell? ⟨gb181, 0, none⟩ = some (.int .u64 a0_0) := (blk_cell BK181.out 0).trans rfl; have hcz6_1 : w5.cell? ⟨gb181, 1, none⟩ = some (.int .u64 a0_1) := (blk_cell BK181.out 1).trans rfl; have hcz6_2 : w5.cell? ⟨gb181, 2, none⟩ = some (.string a0_2) := (blk_cell BK181.out 2).trans rfl; have hcz6_3 : w5.cell? ⟨gb181, 3, none⟩ = some (.slice A0_3 l0_3.length c0_3) := (blk_cell BK181.out 3).trans rfl; have hfz6_0 := blk_frozen BK181.out 0; have hfz6_1 := blk_frozen BK181.out 1; have hfz6_2 := blk_frozen BK181.out 2; have hfz6_3 := blk_frozen BK181.out 3))
    go_ret2
    exact ⟨_, by first | rfl | (simp [errW_none, errW_some] <;> rfl) | (simp [*, errW_none, errW_some] <;> rfl), by first | exact Kd.R_nil _ _ _ _ _ | exact Kd.N_nil _ _ _ _ _ | exact Kd.V_nil _ _ _ _ _ | exact Kd.Q_nil _ _ _ _ _ | exact Kd.S_nil _ _ _ _ _, by repeat (first | (with_reducible first | exact HB.out | apply below_alloc | apply pw_below_drewN | apply below_drew1 | refine below_set ?_ GE181.out) | exact HB.out)⟩
  · rw [if_neg c4] at H
    have c4b0 : decide (a1 ≤ a0_0) = false := decide_eq_false c4
    clear c4
    have H' := Aside0.mk H
    clear H
    go_enter Try.func17, Try.ntmps17
    go_wp2_with (first | ((with_reducible refine gate_dst (N := 3) rfl ?_); (try (refine gate_guard (by rfl) ?_; dsimp only)); refine box_event ?hg (N := 3) ?hd (cs := #[.int .u64 a0_0, .int .u64 a0_1, .string a0_2, .slice A0_3 l0_3.length c0_3]) (t := 25) ?hr ?_; (case hd => rfl); (case hg => rfl); (case hr => first | (go_simp; done) | (go_simp; rfl)); intro gb181 hg w7 hbox hb; have n0_ := Aside0.mk (below_step (by repeat (first | (with_reducible first | exact HB.out | apply below_alloc | apply pw_below_drewN | apply below_drew1) | exact HB.out)) hb); have n1_ := Aside0.mk (hbox); have n2_ := Aside0.mk ((by rw [hg]; exact (below_size (by repeat (first | (with_reducible first | exact HB.out | apply below_alloc | apply pw_below_drewN | apply below_drew1) | exact HB.out))) : w.heap.size ≤ gb181)); have n3_ := Aside0.mk ((by rw [hg]; exact (below_size (by repeat (first | (with_reducible first | exact HB.out | apply below_alloc | apply pw_below_drewN | apply below_drew1) | exact HB.out))) : w.heap.size ≤ gb181)); clear HB; have HB := n0_; have BK181 := n1_; have GW181 := n2_; have GE181 := n3_; clear n0_ n1_ n2_ n3_; clear hb hbox hg; have hcz8_0 : w7.cell? ⟨gb181, 0, none⟩ = some (.int .u64 a0_0) := (blk_cell BK181.out 0).trans rfl; have hcz8_1 : w7.cell? ⟨gb181, 1, none⟩ = some (.int .u64 a0_1) := (blk_cell BK181.out 1).trans rfl; have hcz8_2 : w7.cell? ⟨gb181, 2, none⟩ = some (.string a0_2) := (blk_cell BK181.out 2).trans rfl; have hcz8_3 : w7.cell? ⟨gb181, 3, none⟩ = some (.slice A0_3 l0_3.length c0_3) := (blk_cell BK181.out 3).trans rfl; have hfz8_0 := blk_frozen BK181.out 0; have hfz8_1 := blk_frozen BK181.out 1; have hfz8_2 := blk_frozen BK181.out 2; have hfz8_3 := blk_frozen BK181.out 3))
    go_loopg [8, 9] k (fun kq v8 v9 w' => ∃ (x8_1 : List (S36)) (x9_1 : Int), v9 = .int .i64 x9_1 ∧ Aside0 (ferruleref05_From.l0 kq a1 a2 x8_1 x9_1 a0_0 a0_1 a0_2 l0_3 = some (r1, r2)) ∧ Aside0 (kq ≤ k) ∧ Aside0 (Kd.R k36 36 w' w.heap.size (fun _ => True) v8 x8_1) ∧ Aside0 (w'.heap[gb181]? = some (.cells #[.int .u64 a0_0, .int .u64 a0_1, .string a0_2, (.slice A0_3 l0_3.length c0_3)] 25 (0, 0))) ∧ Aside0 (Below w.heap.size w w'))
    case atStart => exact ⟨(([] : List (S36))), (0), (by first | rfl | (simp; done) | (simp [*]; done)), H', ⟨Nat.le_refl _⟩, ⟨by first | exact Kd.R_nil _ _ _ _ _ | exact Kd.N_nil _ _ _ _ _ | exact Kd.V_nil _ _ _ _ _ | exact Kd.Q_nil _ _ _ _ _ | exact Kd.S_nil _ _ _ _ _⟩, ⟨by (with_reducible repeat (first | refine blk_drewN ?_ _ | refine blk_drew ?_ | refine blk_alloc ?_ _)); exact BK181.out⟩, ⟨by repeat (first | (with_reducible first | exact HB.out | apply below_alloc | apply pw_below_drewN | apply below_drew1 | refine below_set ?_ GE181.out) | exact HB.out)⟩⟩
    case round =>
      clear H'
      try clear c1
      try clear p2
      try clear c4
      try clear c4b0
      try clear hcz6_0
      try clear hcz6_1
      try clear hcz6_2
      try clear hcz6_3
      try clear hcz8_0
      try clear hcz8_1
      try clear hcz8_2
      try clear hcz8_3
      try clear hfz6_0
      try clear hfz6_1
      try clear hfz6_2
      try clear hfz6_3
      try clear hfz8_0
      try clear hfz8_1
      try clear hfz8_2
      try clear hfz8_3
      obtain ⟨x8_1, x9_1, rfl, HA, HK1, HO_8, BK181, HB⟩ := hrel
      cases gk with
      | zero => exact absurd HA.out (by simp [ferruleref05_From.l0])
      | succ k1 =>
        have H := HA.out
        clear HA
        simp only [ferruleref05_From.l0] at H
        have HC9 := Aside0.mk H
        clear H
        go_upto_region 5 with (fail)
        go_cut [24] (fun v24 wc => ∃ (kq : Nat) (x24_8 : Bool), v24 = .bool x24_8 ∧ Aside0 (ferruleref05_From.j1 kq a1 a2 x8_1 x9_1 x24_8 a0_0 a0_1 a0_2 l0_3 = some (r1, r2)) ∧ Aside0 (kq ≤ k1) ∧ Aside0 (Kd.R k36 36 wc w.heap.size (fun _ => True) u8 x8_1) ∧ Aside0 (wc.heap[gb181]? = some (.cells #[.int .u64 a0_0, .int .u64 a0_1, .string a0_2, (.slice A0_3 l0_3.length c0_3)] 25 (0, 0))) ∧ Aside0 (Below w.heap.size w wc))
        case first =>
          have H := HC9.out
          clear HC9
          by_cases c10 : x9_1 < (l0_3.length : Int)
          · rw [if_pos c10] at H
            have c10b0 : decide (x9_1 < (l0_3.length : Int)) = true := decide_eq_true c10
            clear c10
            (first | rw [c10b0] | (simp only [i64_w, i32_w]; rw [c10b0]) | skip)
            have H' := Aside0.mk H
            clear H
            have hcz11_0 : wr.cell? ⟨gb181, 0, none⟩ = some (.int .u64 a0_0) := (blk_cell BK181.out 0).trans rfl
            have hcz11_1 : wr.cell? ⟨gb181, 1, none⟩ = some (.int .u64 a0_1) := (blk_cell BK181.out 1).trans rfl
            have hcz11_2 : wr.cell? ⟨gb181, 2, none⟩ = some (.string a0_2) := (blk_cell BK181.out 2).trans rfl
            have hcz11_3 : wr.cell? ⟨gb181, 3, none⟩ = some (.slice A0_3 l0_3.length c0_3) := (blk_cell BK181.out 3).trans rfl
            have hfz11_0 := blk_frozen BK181.out 0
            have hfz11_1 := blk_frozen BK181.out 1
            have hfz11_2 := blk_frozen BK181.out 2
            have hfz11_3 := blk_frozen BK181.out 3
            obtain ⟨Ao12, co12, eo12⟩ := Kd.R_slice HO_8.out
            subst eo12
            go_wp2
            go_meet
            case rel => exact ⟨_, (decide ((x8_1.length : Int) < a2)), (by first | rfl | (simp; done) | (simp [*]; done)), H', ⟨by have := HK1.out; first | omega | exact Nat.le_refl _⟩, ⟨by (with_reducible repeat (first | apply Kd.R_alloc | apply Kd.R_drewN | apply Kd.R_drew)); exact HO_8.out⟩, ⟨by (with_reducible repeat (first | refine blk_drewN ?_ _ | refine blk_drew ?_ | refine blk_alloc ?_ _)); exact BK181.out⟩, ⟨by repeat (first | (with_reducible first | exact HB.out | apply below_alloc | apply pw_below_drewN | apply below_drew1 | refine below_set ?_ GE181.out) | exact HB.out)⟩⟩
          · rw [if_neg c10] at H
            have c10b0 : decide (x9_1 < (l0_3.length : Int)) = false := decide_eq_false c10
            clear c10
            (first | rw [c10b0] | (simp only [i64_w, i32_w]; rw [c10b0]) | skip)
            have H' := Aside0.mk H
            clear H
            have hcz13_0 : wr.cell? ⟨gb181, 0, none⟩ = some (.int .u64 a0_0) := (blk_cell BK181.out 0).trans rfl
            have hcz13_1 : wr.cell? ⟨gb181, 1, none⟩ = some (.int .u64 a0_1) := (blk_cell BK181.out 1).trans rfl
            have hcz13_2 : wr.cell? ⟨gb181, 2, none⟩ = some (.string a0_2) := (blk_cell BK181.out 2).trans rfl
            have hcz13_3 : wr.cell? ⟨gb181, 3, none⟩ = some (.slice A0_3 l0_3.length c0_3) := (blk_cell BK181.out 3).trans rfl
            have hfz13_0 := blk_frozen BK181.out 0
            have hfz13_1 := blk_frozen BK181.out 1
            have hfz13_2 := blk_frozen BK181.out 2
            have hfz13_3 := blk_frozen BK181.out 3
            go_wp2
            go_meet
            case rel => exact ⟨_, (false), (by first | rfl | (simp; done) | (simp [*]; done)), H', ⟨by have := HK1.out; first | omega | exact Nat.le_refl _⟩, ⟨by (with_reducible repeat (first | apply Kd.R_alloc | apply Kd.R_drewN | apply Kd.R_drew)); exact HO_8.out⟩, ⟨by (with_reducible repeat (first | refine blk_drewN ?_ _ | refine blk_drew ?_ | refine blk_alloc ?_ _)); exact BK181.out⟩, ⟨by repeat (first | (with_reducible first | exact HB.out | apply below_alloc | apply pw_below_drewN | apply below_drew1 | refine below_set ?_ GE181.out) | exact HB.out)⟩⟩
        case rest =>
          clear HC9
          try clear c1
          try clear p2
          try clear c4
          try clear c4b0
          try clear c10
          try clear c10b0
          try clear hcz11_0
          try clear hcz11_1
          try clear hcz11_2
          try clear hcz11_3
          try clear hcz13_0
          try clear hcz13_1
          try clear hcz13_2
          try clear hcz13_3
          try clear hcz6_0
          try clear hcz6_1
          try clear hcz6_2
          try clear hcz6_3
          try clear hcz8_0
          try clear hcz8_1
          try clear hcz8_2
          try clear hcz8_3
          try clear hfz11_0
          try clear hfz11_1
          try clear hfz11_2
          try clear hfz11_3
          try clear hfz13_0
          try clear hfz13_1
          try clear hfz13_2
          try clear hfz13_3
          try clear hfz6_0
          try clear hfz6_1
          try clear hfz6_2
          try clear hfz6_3
          try clear hfz8_0
          try clear hfz8_1
          try clear hfz8_2
          try clear hfz8_3
          try clear p2
          obtain ⟨kq, x24_8, rfl, HA, HJ8, HO_8, BK181, HB⟩ := hcut
          cases kq with
          | zero => exact absurd HA.out (by simp [ferruleref05_From.j1])
          | succ kj8 =>
            have H := HA.out
            clear HA
            simp only [ferruleref05_From.j1] at H
            by_cases c14 : x24_8 = true
            · subst c14
              have H1 : (if (IntKind.u64.wrap (x9_1)) ≥ (IntKind.u64.wrap ((IntKind.u64.wrap (a1 - a0_0)) - 1)) then (if 0 ≤ x9_1 then (if x9_1 < (l0_3.length : Int) then (if x8_1.length < 5864062014805 then (ferruleref05_From.l0 kj8 a1 a2 (x8_1 ++ [(⟨(rd_T36 l0_3 x9_1).f0, (rd_T36 l0_3 x9_1).f1⟩ : S36)]) (wrap64 (x9_1 + 1)) a0_0 a0_1 a0_2 l0_3) else (none)) else (none)) else (none)) else (ferruleref05_From.l0 kj8 a1 a2 x8_1 (wrap64 (x9_1 + 1)) a0_0 a0_1 a0_2 l0_3)) = some (r1, r2) := by rw [if_pos rfl] at H; exact H
              clear H
              have H := H1
              clear H1
              by_cases c15 : (IntKind.u64.wrap (x9_1)) ≥ (IntKind.u64.wrap ((IntKind.u64.wrap (a1 - a0_0)) - 1))
              · rw [if_pos c15] at H
                have c15b0 : decide ((IntKind.u64.wrap ((IntKind.u64.wrap (a1 - a0_0)) - 1)) ≤ (IntKind.u64.wrap (x9_1))) = true := decide_eq_true c15
                clear c15
                by_cases c16 : 0 ≤ x9_1
                · rw [if_pos c16] at H
                  have c16b0 : decide (0 ≤ x9_1) = true := decide_eq_true c16
                  clear c16
                  by_cases c17 : x9_1 < (l0_3.length : Int)
                  · rw [if_pos c17] at H
                    have c17b0 : decide (x9_1 < (l0_3.length : Int)) = true := decide_eq_true c17
                    clear c17
                    by_cases c18 : x8_1.length < 5864062014805
                    · rw [if_pos c18] at H
                      have LMc18 := Aside0.mk c18
                      clear c18
                      obtain ⟨y183, hy183⟩ : ∃ y_ : List (S36), y_ = (x8_1 ++ [(⟨(rd_T36 l0_3 x9_1).f0, (rd_T36 l0_3 x9_1).f1⟩ : S36)]) := ⟨_, rfl⟩
                      replace H : (ferruleref05_From.l0 kj8 a1 a2 y183 (wrap64 (x9_1 + 1)) a0_0 a0_1 a0_2 l0_3) = some (r1, r2) := by first | (rw [hy183]; with_reducible exact H) | (have H2_ := (Option.bind_some _ _).symm.trans H; rw [hy183]; with_reducible exact H2_) | (have H2_ := (Option.bind_some _ _).symm.trans H; with_reducible exact H2_) | with_reducible exact H | (rw [hy183]; exact H) | exact H
                      have Ny183 := Aside0.mk hy183
                      clear hy183
                      have H' := Aside0.mk H
                      clear H
                      have hcz19_0 : wc.cell? ⟨gb181, 0, none⟩ = some (.int .u64 a0_0) := (blk_cell BK181.out 0).trans rfl
                      have hcz19_1 : wc.cell? ⟨gb181, 1, none⟩ = some (.int .u64 a0_1) := (blk_cell BK181.out 1).trans rfl
                      have hcz19_2 : wc.cell? ⟨gb181, 2, none⟩ = some (.string a0_2) := (blk_cell BK181.out 2).trans rfl
                      have hcz19_3 : wc.cell? ⟨gb181, 3, none⟩ = some (.slice A0_3 l0_3.length c0_3) := (blk_cell BK181.out 3).trans rfl
                      have hfz19_0 := blk_frozen BK181.out 0
                      have hfz19_1 := blk_frozen BK181.out 1
                      have hfz19_2 := blk_frozen BK181.out 2
                      have hfz19_3 := blk_frozen BK181.out 3
                      have p182 : 0 ≤ (x9_1 : Int) := of_decide_eq_true (by first | (with_reducible assumption) | assumption)
                      have q182 : x9_1 < (l0_3.length : Int) := of_decide_eq_true (by first | (with_reducible assumption) | assumption)
                      obtain ⟨ad182, e182, hx182_0, hx182_1⟩ := at_T36 HR0_3.out x9_1 p182 q182
                      cases e182
                      replace hx182_0 := (HB.out.cell (World.block_lt_of_cell? w _ hx182_0)).trans hx182_0
                      replace hx182_1 := (HB.out.cell (World.block_lt_of_cell? w _ hx182_1)).trans hx182_1
                      replace p182 := eq_true p182
                      replace q182 := eq_true q182
                      go_wp2_with (first | ((with_reducible refine gate_builtin (b := .append) (xs := #[.tmp 35, .tmp 41]) rfl ?_); (try (refine gate_guard (by rfl) ?_; dsimp only)); at_builtin; refine Kd.R_append k36 (w0 := w) w.heap.size rfl (.tmp 35) (.tmp 41) 23 36 (.agg #[(.int .u64 0), (.string ⟨#[]⟩)]) 24 rfl Try.underlying23 info36 rfl (by decide) (by omega) u8 x8_1 (⟨(rd_T36 l0_3 x9_1).f0, (rd_T36 l0_3 x9_1).f1⟩ : S36) [.int .u64 ((rd_T36 l0_3 x9_1).f0), .string ((rd_T36 l0_3 x9_1).f1)] (fun _ => True) (fun _ => False) rfl rfl ?aP (fun _ hk => hk.elim) ?aF ?aO ?aB ?aS ?aL ?_; (case aP => exact k36_mkM _ _ _ (⟨(rd_T36 l0_3 x9_1).f0, (rd_T36 l0_3 x9_1).f1⟩ : S36)); (case aB => exact (by repeat (first | (with_reducible first | exact HB.out | apply below_alloc | apply pw_below_drewN | apply below_drew1 | refine below_set ?_ GE181.out) | exact HB.out))); (case aF => exact (fun _ _ => trivial)); (case aO => exact (by (with_reducible repeat (first | apply Kd.R_alloc | apply Kd.R_drewN | apply Kd.R_drew)); exact HO_8.out)); (case aS => exact (below_size (by repeat (first | (with_reducible first | exact HB.out | apply below_alloc | apply pw_below_drewN | apply below_drew1 | refine below_set ?_ GE181.out) | exact HB.out)))); (case aL => have := LMc18.out; omega); intro v184 w20 ho hb hg hat; rw [← Ny183.out] at ho; have n0_ := Aside0.mk (blk_grown (g := gb181) (o := .cells #[.int .u64 a0_0, .int .u64 a0_1, .string a0_2, .slice (some ad182) l0_3.length c0_3] 25 (0, 0)) (by (with_reducible repeat (first | refine blk_drewN ?_ _ | refine blk_drew ?_ | refine blk_alloc ?_ _)); exact BK181.out) hg (Kd.R_ne HO_8.out BK181.out (by decide))); have n1_ := Aside0.mk (hb); have n2_ := Aside0.mk (ho); clear BK181; clear HB; clear HO_8; have BK181 := n0_; have HB := n1_; have HO185 := n2_; clear n0_ n1_ n2_; clear ho hb hg hat))
                      go_roundg kj8
                      case measure => have := HK1.out; have := HJ8.out; omega
                      case rel => exact ⟨(y183), (wrap64 (x9_1 + 1)), (by first | rfl | (simp; done) | (simp [*]; done)), H', ⟨by have := HK1.out; have := HJ8.out; omega⟩, ⟨by (with_reducible repeat (first | apply Kd.R_alloc | apply Kd.R_drewN | apply Kd.R_drew)); exact HO185.out⟩, ⟨by (with_reducible repeat (first | refine blk_drewN ?_ _ | refine blk_drew ?_ | refine blk_alloc ?_ _)); exact BK181.out⟩, ⟨by repeat (first | (with_reducible first | exact HB.out | apply below_alloc | apply pw_below_drewN | apply below_drew1 | refine below_set ?_ GE181.out) | exact HB.out)⟩⟩
                    · rw [if_neg c18] at H
                      exact absurd H (by simp)
                  · rw [if_neg c17] at H
                    exact absurd H (by simp)
                · rw [if_neg c16] at H
                  exact absurd H (by simp)
              · rw [if_neg c15] at H
                have c15b0 : decide ((IntKind.u64.wrap ((IntKind.u64.wrap (a1 - a0_0)) - 1)) ≤ (IntKind.u64.wrap (x9_1))) = false := decide_eq_false c15
                clear c15
                have H' := Aside0.mk H
                clear H
                have hcz21_0 : wc.cell? ⟨gb181, 0, none⟩ = some (.int .u64 a0_0) := (blk_cell BK181.out 0).trans rfl
                have hcz21_1 : wc.cell? ⟨gb181, 1, none⟩ = some (.int .u64 a0_1) := (blk_cell BK181.out 1).trans rfl
                have hcz21_2 : wc.cell? ⟨gb181, 2, none⟩ = some (.string a0_2) := (blk_cell BK181.out 2).trans rfl
                have hcz21_3 : wc.cell? ⟨gb181, 3, none⟩ = some (.slice A0_3 l0_3.length c0_3) := (blk_cell BK181.out 3).trans rfl
                have hfz21_0 := blk_frozen BK181.out 0
                have hfz21_1 := blk_frozen BK181.out 1
                have hfz21_2 := blk_frozen BK181.out 2
                have hfz21_3 := blk_frozen BK181.out 3
                go_wp2
                go_roundg kj8
                case measure => have := HK1.out; have := HJ8.out; omega
                case rel => exact ⟨(x8_1), (wrap64 (x9_1 + 1)), (by first | rfl | (simp; done) | (simp [*]; done)), H', ⟨by have := HK1.out; have := HJ8.out; omega⟩, ⟨by (with_reducible repeat (first | apply Kd.R_alloc | apply Kd.R_drewN | apply Kd.R_drew)); exact HO_8.out⟩, ⟨by (with_reducible repeat (first | refine blk_drewN ?_ _ | refine blk_drew ?_ | refine blk_alloc ?_ _)); exact BK181.out⟩, ⟨by repeat (first | (with_reducible first | exact HB.out | apply below_alloc | apply pw_below_drewN | apply below_drew1 | refine below_set ?_ GE181.out) | exact HB.out)⟩⟩
            · replace c14 := Bool.eq_false_iff.mpr c14
              subst c14
              have H1 : (some (x8_1, true)) = some (r1, r2) := by rw [if_neg (show ¬ (false = true) by decide)] at H; exact H
              clear H
              have H := H1
              clear H1
              simp only [Option.some.injEq, Prod.mk.injEq] at H
              obtain ⟨rfl, rfl⟩ := H
              go_wp2
              go_ret2
              exact ⟨_, by first | rfl | (simp [errW_none, errW_some] <;> rfl) | (simp [*, errW_none, errW_some] <;> rfl), by (with_reducible repeat (first | apply Kd.R_alloc | apply Kd.R_drewN | apply Kd.R_drew)); exact HO_8.out, by repeat (first | (with_reducible first | exact HB.out | apply below_alloc | apply pw_below_drewN | apply below_drew1 | refine below_set ?_ GE181.out) | exact HB.out)⟩

end Go.Proofs.Ytbejichfgednhaa.Pr
