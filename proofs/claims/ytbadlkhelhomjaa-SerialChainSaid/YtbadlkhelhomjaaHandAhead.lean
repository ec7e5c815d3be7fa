/- serial.Ahead: what it answers. Conditions: none. -/
import Derived.Test.YtbadlkhelhomjaaHandMeet
namespace Go.Proofs.Ytbadlkhelhomjaa.Pr
open Go.RowKit Go.Proofs.YtbadlkhelhomjaaW.PrintWords Go.Proofs.YtbadlkhelhomjaaW.PrintLast Go.Proofs.YtbadlkhelhomjaaW.PrintMore
open Go.Proofs.Ytbadlkhelhomjaa.Hnd
attribute [local go_sem] setCell_drewN_ alloc_drewN_
set_option linter.unusedVariables false
set_option linter.unusedSimpArgs false
/-- Must a be ahead of b? -/
def aheadB (a b : S27) : Bool := (!(a.f2 == 0) && decide (a.f2 < b.f1)) || (meet17 a.f4 b.f3 || (meet18 a.f3 b.f4 || meet18 a.f4 b.f4))
def serial_Ahead.f (a0_0 a0_1 a0_2 a0_3 : Int) (l0_4 l0_5 : List S40) (a1_0 a1_1 a1_2 a1_3 : Int) (l1_4 l1_5 : List S40) : Option Bool := some (aheadB ⟨⟨a0_0, a0_1⟩, a0_2, a0_3, l0_4, l0_5⟩ ⟨⟨a1_0, a1_1⟩, a1_2, a1_3, l1_4, l1_5⟩)
set_option maxHeartbeats 4000000 in
set_option maxRecDepth 100000 in
theorem serial_Ahead.calls (a0_0 a0_1 a0_2 a0_3 : Int) (A0_4 : Option Addr) (c0_4 : Nat) (l0_4 : List S40) (A0_5 : Option Addr) (c0_5 : Nat) (l0_5 : List S40) (a1_0 a1_1 a1_2 a1_3 : Int) (A1_4 : Option Addr) (c1_4 : Nat) (l1_4 : List S40) (A1_5 : Option Addr) (c1_5 : Nat) (l1_5 : List S40) (r : Bool) (w : World) (hr0_4 : Kd.C k40 w A0_4 l0_4.length l0_4) (hc0_4 : l0_4.length ≤ c0_4) (hr0_5 : Kd.C k40 w A0_5 l0_5.length l0_5) (hc0_5 : l0_5.length ≤ c0_5) (hr1_4 : Kd.C k40 w A1_4 l1_4.length l1_4) (hc1_4 : l1_4.length ≤ c1_4) (hr1_5 : Kd.C k40 w A1_5 l1_5.length l1_5) (hc1_5 : l1_5.length ≤ c1_5) (h : serial_Ahead.f a0_0 a0_1 a0_2 a0_3 l0_4 l0_5 a1_0 a1_1 a1_2 a1_3 l1_4 l1_5 = some r) :
    Calls Try.prog 10 #[.agg #[.int .u64 a0_0, .int .u64 a0_1, .int .u64 a0_2, .int .u64 a0_3, .slice A0_4 l0_4.length c0_4, .slice A0_5 l0_5.length c0_5], .agg #[.int .u64 a1_0, .int .u64 a1_1, .int .u64 a1_2, .int .u64 a1_3, .slice A1_4 l1_4.length c1_4, .slice A1_5 l1_5.length c1_5]] w fun e w' => e = .returned (.bool r) ∧ Below w.heap.size w w' := by
  obtain rfl := Option.some.inj h
  clear h
  obtain ⟨q1, h1⟩ : ∃ q, meet17 l0_5 l1_4 = q := ⟨_, rfl⟩
  obtain ⟨q2, h2⟩ : ∃ q, meet18 l0_4 l1_5 = q := ⟨_, rfl⟩
  obtain ⟨q3, h3⟩ : ∃ q, meet18 l0_5 l1_5 = q := ⟨_, rfl⟩
  unfold aheadB
  simp only [h1, h2, h3]
  have H1 := Aside0.mk (fun W (hb : Below w.heap.size w W) => h1 ▸ meet_17 A0_5 c0_5 l0_5 A1_4 c1_4 l1_4 W (Kd.C_below hr0_5 hb) hc0_5 (Kd.C_below hr1_4 hb) hc1_4)
  have H2 := Aside0.mk (fun W (hb : Below w.heap.size w W) => h2 ▸ meet_18 A0_4 c0_4 l0_4 A1_5 c1_5 l1_5 W (Kd.C_below hr0_4 hb) hc0_4 (Kd.C_below hr1_5 hb) hc1_5)
  have H3 := Aside0.mk (fun W (hb : Below w.heap.size w W) => h3 ▸ meet_18 A0_5 c0_5 l0_5 A1_5 c1_5 l1_5 W (Kd.C_below hr0_5 hb) hc0_5 (Kd.C_below hr1_5 hb) hc1_5)
  clear h1 h2 h3 hr0_4 hr0_5 hr1_4 hr1_5
  have KX := Aside0.mk (blk_alloc (blk_new w (.cells #[.int .u64 a0_0, .int .u64 a0_1, .int .u64 a0_2, .int .u64 a0_3, .slice A0_4 l0_4.length c0_4, .slice A0_5 l0_5.length c0_5] 27)) (.cells #[.int .u64 a1_0, .int .u64 a1_1, .int .u64 a1_2, .int .u64 a1_3, .slice A1_4 l1_4.length c1_4, .slice A1_5 l1_5.length c1_5] 27))
  have KY := Aside0.mk (blk_newAt (W := w.alloc (.cells #[.int .u64 a0_0, .int .u64 a0_1, .int .u64 a0_2, .int .u64 a0_3, .slice A0_4 l0_4.length c0_4, .slice A0_5 l0_5.length c0_5] 27)) (o := (.cells #[.int .u64 a1_0, .int .u64 a1_1, .int .u64 a1_2, .int .u64 a1_3, .slice A1_4 l1_4.length c1_4, .slice A1_5 l1_5.length c1_5] 27)) (w.heap.size + 1) (by simp))
  have HB0 := Aside0.mk (below_alloc (below_alloc (Below.refl w.heap.size w) (.cells #[.int .u64 a0_0, .int .u64 a0_1, .int .u64 a0_2, .int .u64 a0_3, .slice A0_4 l0_4.length c0_4, .slice A0_5 l0_5.length c0_5] 27)) (.cells #[.int .u64 a1_0, .int .u64 a1_1, .int .u64 a1_2, .int .u64 a1_3, .slice A1_4 l1_4.length c1_4, .slice A1_5 l1_5.length c1_5] 27))
  by_cases h0 : a0_3 = 0
  · subst h0
    cases q1 with
    | true =>
      go_enter Try.func10, Try.ntmps10
      go_wp2_with (first | (go_at_call 19; refine (H1.out _ HB0.out).mono ?_; rintro e w1 ⟨rfl, hb⟩; have HB1 := Aside0.mk (below_call HB0.out hb); have KX1 := Aside0.mk (blk_below KX.out hb); have KY1 := Aside0.mk (blk_below KY.out hb); have cx1 := fun o => blk_cell KX1.out o; have cy1 := fun o => blk_cell KY1.out o; have zx1 := blk_lt KX1.out; have zy1 := blk_lt KY1.out; clear hb))
      go_ret
      exact ⟨by simp [*], HB1.out⟩
    | false =>
      cases q2 with
      | true =>
        go_enter Try.func10, Try.ntmps10
        go_wp2_with (first | (go_at_call 19; refine (H1.out _ HB0.out).mono ?_; rintro e w1 ⟨rfl, hb⟩; have HB1 := Aside0.mk (below_call HB0.out hb); have KX1 := Aside0.mk (blk_below KX.out hb); have KY1 := Aside0.mk (blk_below KY.out hb); have cx1 := fun o => blk_cell KX1.out o; have cy1 := fun o => blk_cell KY1.out o; have zx1 := blk_lt KX1.out; have zy1 := blk_lt KY1.out; clear hb) | (go_at_call 19; refine (H2.out _ HB1.out).mono ?_; rintro e w2 ⟨rfl, hb⟩; have HB2 := Aside0.mk (below_call HB1.out hb); have KX2 := Aside0.mk (blk_below KX1.out hb); have KY2 := Aside0.mk (blk_below KY1.out hb); have cx2 := fun o => blk_cell KX2.out o; have cy2 := fun o => blk_cell KY2.out o; have zx2 := blk_lt KX2.out; have zy2 := blk_lt KY2.out; clear hb))
        go_ret
        exact ⟨by simp [*], HB2.out⟩
      | false =>
        go_enter Try.func10, Try.ntmps10
        go_wp2_with (first | (go_at_call 19; refine (H1.out _ HB0.out).mono ?_; rintro e w1 ⟨rfl, hb⟩; have HB1 := Aside0.mk (below_call HB0.out hb); have KX1 := Aside0.mk (blk_below KX.out hb); have KY1 := Aside0.mk (blk_below KY.out hb); have cx1 := fun o => blk_cell KX1.out o; have cy1 := fun o => blk_cell KY1.out o; have zx1 := blk_lt KX1.out; have zy1 := blk_lt KY1.out; clear hb) | (go_at_call 19; refine (H2.out _ HB1.out).mono ?_; rintro e w2 ⟨rfl, hb⟩; have HB2 := Aside0.mk (below_call HB1.out hb); have KX2 := Aside0.mk (blk_below KX1.out hb); have KY2 := Aside0.mk (blk_below KY1.out hb); have cx2 := fun o => blk_cell KX2.out o; have cy2 := fun o => blk_cell KY2.out o; have zx2 := blk_lt KX2.out; have zy2 := blk_lt KY2.out; clear hb) | (go_at_call 19; refine (H3.out _ HB2.out).mono ?_; rintro e w3 ⟨rfl, hb⟩; have HB3 := Aside0.mk (below_call HB2.out hb); clear hb))
        go_ret
        exact ⟨by simp [*], HB3.out⟩
  · have g1 : (a0_3 == 0) = false := by simpa using h0
    have g2 : (a0_3 != 0) = true := by simpa using h0
    have g3 : decide (a0_3 = 0) = false := decide_eq_false h0
    cases he : decide (a0_3 < a1_2) with
    | true =>
      go_enter Try.func10, Try.ntmps10
      go_wp2
      go_ret
      exact ⟨by simp [*], HB0.out⟩
    | false =>
      cases q1 with
      | true =>
        go_enter Try.func10, Try.ntmps10
        go_wp2_with (first | (go_at_call 19; refine (H1.out _ HB0.out).mono ?_; rintro e w1 ⟨rfl, hb⟩; have HB1 := Aside0.mk (below_call HB0.out hb); have KX1 := Aside0.mk (blk_below KX.out hb); have KY1 := Aside0.mk (blk_below KY.out hb); have cx1 := fun o => blk_cell KX1.out o; have cy1 := fun o => blk_cell KY1.out o; have zx1 := blk_lt KX1.out; have zy1 := blk_lt KY1.out; clear hb))
        go_ret
        exact ⟨by simp [*], HB1.out⟩
      | false =>
        cases q2 with
        | true =>
          go_enter Try.func10, Try.ntmps10
          go_wp2_with (first | (go_at_call 19; refine (H1.out _ HB0.out).mono ?_; rintro e w1 ⟨rfl, hb⟩; have HB1 := Aside0.mk (below_call HB0.out hb); have KX1 := Aside0.mk (blk_below KX.out hb); have KY1 := Aside0.mk (blk_below KY.out hb); have cx1 := fun o => blk_cell KX1.out o; have cy1 := fun o => blk_cell KY1.out o; have zx1 := blk_lt KX1.out; have zy1 := blk_lt KY1.out; clear hb) | (go_at_call 19; refine (H2.out _ HB1.out).mono ?_; rintro e w2 ⟨rfl, hb⟩; have HB2 := Aside0.mk (below_call HB1.out hb); have KX2 := Aside0.mk (blk_below KX1.out hb); have KY2 := Aside0.mk (blk_below KY1.out hb); have cx2 := fun o => blk_cell KX2.out o; have cy2 := fun o => blk_cell KY2.out o; have zx2 := blk_lt KX2.out; have zy2 := blk_lt KY2.out; clear hb))
          go_ret
          exact ⟨by simp [*], HB2.out⟩
        | false =>
          go_enter Try.func10, Try.ntmps10
          go_wp2_with (first | (go_at_call 19; refine (H1.out _ HB0.out).mono ?_; rintro e w1 ⟨rfl, hb⟩; have HB1 := Aside0.mk (below_call HB0.out hb); have KX1 := Aside0.mk (blk_below KX.out hb); have KY1 := Aside0.mk (blk_below KY.out hb); have cx1 := fun o => blk_cell KX1.out o; have cy1 := fun o => blk_cell KY1.out o; have zx1 := blk_lt KX1.out; have zy1 := blk_lt KY1.out; clear hb) | (go_at_call 19; refine (H2.out _ HB1.out).mono ?_; rintro e w2 ⟨rfl, hb⟩; have HB2 := Aside0.mk (below_call HB1.out hb); have KX2 := Aside0.mk (blk_below KX1.out hb); have KY2 := Aside0.mk (blk_below KY1.out hb); have cx2 := fun o => blk_cell KX2.out o; have cy2 := fun o => blk_cell KY2.out o; have zx2 := blk_lt KX2.out; have zy2 := blk_lt KY2.out; clear hb) | (go_at_call 19; refine (H3.out _ HB2.out).mono ?_; rintro e w3 ⟨rfl, hb⟩; have HB3 := Aside0.mk (below_call HB2.out hb); clear hb))
          go_ret
          exact ⟨by simp [*], HB3.out⟩
end Go.Proofs.Ytbadlkhelhomjaa.Pr
