/- What the program's functions compute, and that they compute it: printed out of the translation by a program of this session's (px.py, over the kit's printer). Conditions: none. -/
import Derived.Test.YtfjhlcbpogihmaaGNoteBackPr0
import Derived.Test.YtfjhlcbpogihmaaKNoteBack3
namespace Go.Proofs.Ytfjhlcbpogihmaa.Pr
open Go.RowKit Go.Proofs.YtfjhlcbpogihmaaW.PrintWords Go.Proofs.YtfjhlcbpogihmaaW.PrintLast Go.Proofs.YtfjhlcbpogihmaaW.PrintMore
attribute [local go_sem] max2_int min2_int max_two min_two max_three min_three max_four min_four
set_option linter.unusedVariables false
set_option linter.unusedSimpArgs false
/-! ### note_May: function 29 -/
mutual
def note_May.j0 : Nat → Bool → Int → Int → Int → Int → ByteArray → List (S75) → Int → Int → ByteArray → List (S75) → Option (Bool)
  | 0, _, _, _, _, _, _, _, _, _, _, _ => none
  | k + 1, x43, x311000, x311001, x311002, x311003, x311004, x311005, x312000, x312001, x312002, x312003 => if x43 = true then (some false) else (if x312000 = 0 then (if x312001 = 0 then (note_May.j1 k (x312002.toList != ([] : List UInt8)) x311000 x311001 x311002 x311003 x311004 x311005 x312000 x312001 x312002 x312003) else (note_May.j1 k true x311000 x311001 x311002 x311003 x311004 x311005 x312000 x312001 x312002 x312003)) else (note_May.j1 k false x311000 x311001 x311002 x311003 x311004 x311005 x312000 x312001 x312002 x312003))
def note_May.j1 : Nat → Bool → Int → Int → Int → Int → ByteArray → List (S75) → Int → Int → ByteArray → List (S75) → Option (Bool)
  | 0, _, _, _, _, _, _, _, _, _, _, _ => none
  | k + 1, x56, x311000, x311001, x311002, x311003, x311004, x311005, x312000, x312001, x312002, x312003 => if x56 = true then (some false) else (note_May.l0 k x312001 x312003 (x312003.length : Int) 0 x311000 x311001 x311002 x311003 x311004 x311005)
def note_May.l0 : Nat → Int → List (S75) → Int → Int → Int → Int → Int → Int → ByteArray → List (S75) → Option (Bool)
  | 0, _, _, _, _, _, _, _, _, _, _ => none
  | k + 1, x4, x60, x61, x62, x311000, x311001, x311002, x311003, x311004, x311005 => if x62 < x61 then (if 0 ≤ x62 then (if x62 < (x60.length : Int) then (if ((rd_T75 x60 x62).f0) < x4 then (some false) else (if ((rd_T75 x60 x62).f0) > x311000 then (some false) else (if (((rd_T75 x60 x62).f1).size : Int) > 4096 then (some false) else (note_May.l0 k ((rd_T75 x60 x62).f0) x60 x61 (wrap64 (x62 + 1)) x311000 x311001 x311002 x311003 x311004 x311005)))) else (none)) else (none)) else (some true)
end
def note_May.f (k : Nat) (a0_0 : Int) (a0_1 : Int) (a0_2 : Int) (a0_3 : Int) (a0_4 : ByteArray) (l0_5 : List (S75)) : Option (Bool) := if (mx a0_0 a0_1) > 4611686018427387903 then (note_May.j0 k true a0_0 a0_1 a0_2 a0_3 a0_4 l0_5 a0_2 a0_3 a0_4 l0_5) else (if a0_2 > 1099511627776 then (note_May.j0 k true a0_0 a0_1 a0_2 a0_3 a0_4 l0_5 a0_2 a0_3 a0_4 l0_5) else (if (l0_5.length : Int) > 1024 then (note_May.j0 k true a0_0 a0_1 a0_2 a0_3 a0_4 l0_5 a0_2 a0_3 a0_4 l0_5) else ((note_last.f a0_2 a0_3 a0_4 l0_5).bind fun t312 => (if t312 > 1099511627776 then (note_May.j0 k true a0_0 a0_1 a0_2 a0_3 a0_4 l0_5 a0_2 a0_3 a0_4 l0_5) else (if (a0_4.size : Int) > 4096 then (note_May.j0 k true a0_0 a0_1 a0_2 a0_3 a0_4 l0_5 a0_2 a0_3 a0_4 l0_5) else (note_May.j0 k (decide (a0_3 > a0_0)) a0_0 a0_1 a0_2 a0_3 a0_4 l0_5 a0_2 a0_3 a0_4 l0_5))))))
namespace Sh25
theorem am_ {p : Prop} (h : p) : Aside0 p := ⟨h⟩
theorem bx_ {Q P : Prop} (b : Aside0 Q) (h : Q → P := by intro hq_; (with_reducible repeat (first | refine blk_drewN ?_ _ | refine blk_drew ?_ | refine blk_alloc ?_ _)); exact hq_) : P := h b.out
theorem hx_ {Q P : Prop} (b : Aside0 Q) (h : Q → P := by intro hq_; repeat (first | (with_reducible first | exact hq_ | apply below_alloc | apply pw_below_drewN | apply below_drew1 | refine below_set ?_ (Aside0.out (by assumption))) | exact hq_)) : P := h b.out
end Sh25
open Sh25
set_option maxHeartbeats 8000000 in
set_option maxRecDepth 100000 in
theorem note_May.calls (k : Nat) (a0_0 : Int) (a0_1 : Int) (a0_2 : Int) (a0_3 : Int) (a0_4 : ByteArray) (A0_5 : Option Addr) (c0_5 : Nat) (l0_5 : List (S75)) (r : Bool) (w : World) (hr0_5 : Kd.C k75 w A0_5 l0_5.length l0_5) (hc0_5 : l0_5.length ≤ c0_5) (h : note_May.f k a0_0 a0_1 a0_2 a0_3 a0_4 l0_5 = some r) :
  Calls Try.prog 29 #[.agg #[.int .u64 a0_0, .int .u64 a0_1, .int .u64 a0_2, .int .u64 a0_3, .string a0_4, .slice A0_5 l0_5.length c0_5]] w fun e w' => e = .returned (.bool r) ∧ Below w.heap.size w w' := by
 have hu30 := Try.underlying30
 have hu28 := Try.underlying28
 have hu75 := Try.underlying75
 have HR0_5 := am_ hr0_5
 have HC0_5 := am_ hc0_5
 clear hr0_5 hc0_5
 have HB := am_ (Below.refl w.heap.size w)
 have H : (if (mx a0_0 a0_1) > 4611686018427387903 then (note_May.j0 k true a0_0 a0_1 a0_2 a0_3 a0_4 l0_5 a0_2 a0_3 a0_4 l0_5) else (if a0_2 > 1099511627776 then (note_May.j0 k true a0_0 a0_1 a0_2 a0_3 a0_4 l0_5 a0_2 a0_3 a0_4 l0_5) else (if (l0_5.length : Int) > 1024 then (note_May.j0 k true a0_0 a0_1 a0_2 a0_3 a0_4 l0_5 a0_2 a0_3 a0_4 l0_5) else ((note_last.f a0_2 a0_3 a0_4 l0_5).bind fun t312 => (if t312 > 1099511627776 then (note_May.j0 k true a0_0 a0_1 a0_2 a0_3 a0_4 l0_5 a0_2 a0_3 a0_4 l0_5) else (if (a0_4.size : Int) > 4096 then (note_May.j0 k true a0_0 a0_1 a0_2 a0_3 a0_4 l0_5 a0_2 a0_3 a0_4 l0_5) else (note_May.j0 k (decide (a0_3 > a0_0)) a0_0 a0_1 a0_2 a0_3 a0_4 l0_5 a0_2 a0_3 a0_4 l0_5))))))) = some r := h
 clear h
 have HC2 := am_ H
 clear H
 go_enter Try.func29, Try.ntmps29
 go_upto_region 2 with (first | ((with_reducible refine gate_dst (N := 1) rfl ?_); (try (refine gate_guard (by rfl) ?_; dsimp only)); refine box_event ?hg (N := 1) ?hd (cs := #[.int .u64 a0_0, .int .u64 a0_1, .int .u64 a0_2, .int .u64 a0_3, .string a0_4, .slice A0_5 l0_5.length c0_5]) (t := 30) ?hr ?_; (case hd => rfl); (case hg => rfl); (case hr => first | (go_simp; done) | (go_simp; rfl)); intro gb310 hg w3 hbox hb; have n0_ := am_ (below_step (by repeat (first | (with_reducible first | exact HB.out | apply below_alloc | apply pw_below_drewN | apply below_drew1) | exact HB.out | exact Below.refl _ _)) hb); have n1_ := am_ (hbox); have n2_ := am_ ((by rw [hg]; exact (below_size (hx_ HB)) : w.heap.size ≤ gb310)); have n3_ := am_ ((by rw [hg]; exact (below_size (hx_ HB)) : w.heap.size ≤ gb310)); clear HB; have HB := n0_; have BK310 := n1_; have GW310 := n2_; have GE310 := n3_; clear n0_ n1_ n2_ n3_; clear hb hbox hg; have hcz4_0 : w3.cell? ⟨gb310, 0, none⟩ = some (.int .u64 a0_0) := (blk_cell BK310.out 0).trans rfl; have hcz4_1 : w3.cell? ⟨gb310, 1, none⟩ = some (.int .u64 a0_1) := (blk_cell BK310.out 1).trans rfl; have hcz4_2 : w3.cell? ⟨gb310, 2, none⟩ = some (.int .u64 a0_2) := (blk_cell BK310.out 2).trans rfl; have hcz4_3 : w3.cell? ⟨gb310, 3, none⟩ = some (.int .u64 a0_3) := (blk_cell BK310.out 3).trans rfl; have hcz4_4 : w3.cell? ⟨gb310, 4, none⟩ = some (.string a0_4) := (blk_cell BK310.out 4).trans rfl; have hcz4_5 : w3.cell? ⟨gb310, 5, none⟩ = some (.slice A0_5 l0_5.length c0_5) := (blk_cell BK310.out 5).trans rfl; have hfz4_0 := blk_frozen BK310.out 0; have hfz4_1 := blk_frozen BK310.out 1; have hfz4_2 := blk_frozen BK310.out 2; have hfz4_3 := blk_frozen BK310.out 3; have hfz4_4 := blk_frozen BK310.out 4; have hfz4_5 := blk_frozen BK310.out 5) | ((with_reducible refine gate_dst (N := 3) rfl ?_); (try (refine gate_guard (by rfl) ?_; dsimp only)); refine box_event ?hg (N := 3) ?hd (cs := #[.int .u64 0, .int .u64 0, .string (⟨#[]⟩ : ByteArray), .slice none 0 0]) (t := 28) ?hr ?_; (case hd => rfl); (case hg => rfl); (case hr => first | (go_simp; done) | (go_simp; rfl)); intro gb311 hg w5 hbox hb; have n0_ := am_ (blk_below (g := gb310) (o := .cells #[.int .u64 a0_0, .int .u64 a0_1, .int .u64 a0_2, .int .u64 a0_3, .string a0_4, .slice A0_5 l0_5.length c0_5] 30 (0, 0)) (bx_ BK310) hb); have n1_ := am_ (below_step (by repeat (first | (with_reducible first | exact HB.out | apply below_alloc | apply pw_below_drewN | apply below_drew1 | refine below_set ?_ GE310.out) | exact HB.out | exact Below.refl _ _)) hb); have n2_ := am_ (hbox); have n3_ := am_ ((by rw [hg]; exact (below_size (hx_ HB)) : w.heap.size ≤ gb311)); have n4_ := am_ ((by rw [hg]; exact (below_size (hx_ HB)) : w.heap.size ≤ gb311)); have n5_ := am_ ((by rw [hg]; exact Nat.ne_of_lt (blk_lt (g := gb310) (o := .cells #[.int .u64 a0_0, .int .u64 a0_1, .int .u64 a0_2, .int .u64 a0_3, .string a0_4, .slice A0_5 l0_5.length c0_5] 30 (0, 0)) (bx_ BK310)) : gb310 ≠ gb311)); have n6_ := am_ ((by rw [hg]; exact Nat.ne_of_gt (blk_lt (g := gb310) (o := .cells #[.int .u64 a0_0, .int .u64 a0_1, .int .u64 a0_2, .int .u64 a0_3, .string a0_4, .slice A0_5 l0_5.length c0_5] 30 (0, 0)) (bx_ BK310)) : gb311 ≠ gb310)); clear BK310; clear HB; have BK310 := n0_; have HB := n1_; have BK311 := n2_; have GW311 := n3_; have GE311 := n4_; have NB310_311 := n5_; have NB311_310 := n6_; clear n0_ n1_ n2_ n3_ n4_ n5_ n6_; clear hb hbox hg; have hnb6 := NB311_310.out; have hnc6 := NB310_311.out; have hcz7_0 : w5.cell? ⟨gb311, 0, none⟩ = some (.int .u64 0) := (blk_cell BK311.out 0).trans rfl; have hcz7_1 : w5.cell? ⟨gb311, 1, none⟩ = some (.int .u64 0) := (blk_cell BK311.out 1).trans rfl; have hcz7_2 : w5.cell? ⟨gb311, 2, none⟩ = some (.string (⟨#[]⟩ : ByteArray)) := (blk_cell BK311.out 2).trans rfl; have hcz7_3 : w5.cell? ⟨gb311, 3, none⟩ = some (.slice none 0 0) := (blk_cell BK311.out 3).trans rfl; have hfz7_0 := blk_frozen BK311.out 0; have hfz7_1 := blk_frozen BK311.out 1; have hfz7_2 := blk_frozen BK311.out 2; have hfz7_3 := blk_frozen BK311.out 3))
 (try simp only [Act.put, List.setIfInBounds_toArray, List.set_cons_zero, List.set_cons_succ])
 go_cut [43] (fun v43 wc => ∃ (kq : Nat) (x43_1 : Bool), v43 = .bool x43_1 ∧ Aside0 (note_May.j0 kq x43_1 a0_0 a0_1 a0_2 a0_3 a0_4 l0_5 a0_2 a0_3 a0_4 l0_5 = some r) ∧ Aside0 (kq ≤ k) ∧ Aside0 (wc.heap[gb310]? = some (.cells #[.int .u64 a0_0, .int .u64 a0_1, .int .u64 a0_2, .int .u64 a0_3, .string a0_4, (.slice A0_5 l0_5.length c0_5)] 30 (0, 0))) ∧ Aside0 (wc.heap[gb311]? = some (.cells #[.int .u64 a0_2, .int .u64 a0_3, .string a0_4, (.slice A0_5 l0_5.length c0_5)] 28 (0, 0))) ∧ Aside0 (Below w.heap.size w wc))
 case first =>
  have H := HC2.out
  clear HC2
  obtain ⟨ji8, hji8⟩ : ∃ j_ : Int, (mx a0_0 a0_1) = j_ := ⟨_, rfl⟩
  replace H : (if (ji8) > 4611686018427387903 then (note_May.j0 k true a0_0 a0_1 a0_2 a0_3 a0_4 l0_5 a0_2 a0_3 a0_4 l0_5) else (if a0_2 > 1099511627776 then (note_May.j0 k true a0_0 a0_1 a0_2 a0_3 a0_4 l0_5 a0_2 a0_3 a0_4 l0_5) else (if (l0_5.length : Int) > 1024 then (note_May.j0 k true a0_0 a0_1 a0_2 a0_3 a0_4 l0_5 a0_2 a0_3 a0_4 l0_5) else ((note_last.f a0_2 a0_3 a0_4 l0_5).bind fun t312 => (if t312 > 1099511627776 then (note_May.j0 k true a0_0 a0_1 a0_2 a0_3 a0_4 l0_5 a0_2 a0_3 a0_4 l0_5) else (if (a0_4.size : Int) > 4096 then (note_May.j0 k true a0_0 a0_1 a0_2 a0_3 a0_4 l0_5 a0_2 a0_3 a0_4 l0_5) else (note_May.j0 k (decide (a0_3 > a0_0)) a0_0 a0_1 a0_2 a0_3 a0_4 l0_5 a0_2 a0_3 a0_4 l0_5))))))) = some r := by first | (rw [hji8] at H; exact H) | (simp only [hji8] at H ⊢; exact H)
  have hji8_ : (if a0_0 < a0_1 then a0_1 else a0_0) = ji8 := hji8
  by_cases c9 : (ji8) > 4611686018427387903
  ·rw [if_pos c9] at H
   have c9b0 : decide (4611686018427387903 < (ji8)) = true := decide_eq_true c9
   clear c9
   (first | rw [c9b0] | (simp only [i64_w, i32_w]; rw [c9b0]) | skip)
   have H' := am_ H
   clear H
   have hnb10 := NB310_311.out
   have hnc10 := NB311_310.out
   have hcz11_0 : w5.cell? ⟨gb310, 0, none⟩ = some (.int .u64 a0_0) := (blk_cell BK310.out 0).trans rfl
   have hcz11_1 : w5.cell? ⟨gb310, 1, none⟩ = some (.int .u64 a0_1) := (blk_cell BK310.out 1).trans rfl
   have hcz11_2 : w5.cell? ⟨gb310, 2, none⟩ = some (.int .u64 a0_2) := (blk_cell BK310.out 2).trans rfl
   have hcz11_3 : w5.cell? ⟨gb310, 3, none⟩ = some (.int .u64 a0_3) := (blk_cell BK310.out 3).trans rfl
   have hcz11_4 : w5.cell? ⟨gb310, 4, none⟩ = some (.string a0_4) := (blk_cell BK310.out 4).trans rfl
   have hcz11_5 : w5.cell? ⟨gb310, 5, none⟩ = some (.slice A0_5 l0_5.length c0_5) := (blk_cell BK310.out 5).trans rfl
   have hfz11_0 := blk_frozen BK310.out 0
   have hfz11_1 := blk_frozen BK310.out 1
   have hfz11_2 := blk_frozen BK310.out 2
   have hfz11_3 := blk_frozen BK310.out 3
   have hfz11_4 := blk_frozen BK310.out 4
   have hfz11_5 := blk_frozen BK310.out 5
   go_wp2
   go_meet
   case rel => exact ⟨_, (true), (by first | rfl | (simp; done) | (simp [*]; done)), H', ⟨by first | omega | exact Nat.le_refl _⟩, ⟨by (with_reducible repeat (first | refine blk_drewN ?_ _ | refine blk_drew ?_ | refine blk_alloc ?_ _)); refine blk_far ?_ NB310_311.out _; (with_reducible repeat (first | refine blk_drewN ?_ _ | refine blk_drew ?_ | refine blk_alloc ?_ _)); refine blk_far ?_ NB310_311.out _; (with_reducible repeat (first | refine blk_drewN ?_ _ | refine blk_drew ?_ | refine blk_alloc ?_ _)); refine blk_far ?_ NB310_311.out _; (with_reducible repeat (first | refine blk_drewN ?_ _ | refine blk_drew ?_ | refine blk_alloc ?_ _)); refine blk_far ?_ NB310_311.out _; (with_reducible repeat (first | refine blk_drewN ?_ _ | refine blk_drew ?_ | refine blk_alloc ?_ _)); exact BK310.out⟩, ⟨by (with_reducible repeat (first | refine blk_drewN ?_ _ | refine blk_drew ?_ | refine blk_alloc ?_ _)); refine blk_put (cs := #[.int .u64 a0_2, .int .u64 a0_3, .string a0_4, .slice none 0 0]) ?_ 3 _ rfl; (with_reducible repeat (first | refine blk_drewN ?_ _ | refine blk_drew ?_ | refine blk_alloc ?_ _)); refine blk_put (cs := #[.int .u64 a0_2, .int .u64 a0_3, .string (⟨#[]⟩ : ByteArray), .slice none 0 0]) ?_ 2 _ rfl; (with_reducible repeat (first | refine blk_drewN ?_ _ | refine blk_drew ?_ | refine blk_alloc ?_ _)); refine blk_put (cs := #[.int .u64 a0_2, .int .u64 0, .string (⟨#[]⟩ : ByteArray), .slice none 0 0]) ?_ 1 _ rfl; (with_reducible repeat (first | refine blk_drewN ?_ _ | refine blk_drew ?_ | refine blk_alloc ?_ _)); refine blk_put (cs := #[.int .u64 0, .int .u64 0, .string (⟨#[]⟩ : ByteArray), .slice none 0 0]) ?_ 0 _ rfl; (with_reducible repeat (first | refine blk_drewN ?_ _ | refine blk_drew ?_ | refine blk_alloc ?_ _)); exact BK311.out⟩, ⟨hx_ HB⟩⟩
  ·rw [if_neg c9] at H
   have c9b0 : decide (4611686018427387903 < (ji8)) = false := decide_eq_false c9
   clear c9
   (first | rw [c9b0] | (simp only [i64_w, i32_w]; rw [c9b0]) | skip)
   by_cases c12 : a0_2 > 1099511627776
   ·rw [if_pos c12] at H
    have c12b0 : decide (1099511627776 < a0_2) = true := decide_eq_true c12
    clear c12
    have H' := am_ H
    clear H
    have hnb13 := NB310_311.out
    have hnc13 := NB311_310.out
    have hcz14_0 : w5.cell? ⟨gb310, 0, none⟩ = some (.int .u64 a0_0) := (blk_cell BK310.out 0).trans rfl
    have hcz14_1 : w5.cell? ⟨gb310, 1, none⟩ = some (.int .u64 a0_1) := (blk_cell BK310.out 1).trans rfl
    have hcz14_2 : w5.cell? ⟨gb310, 2, none⟩ = some (.int .u64 a0_2) := (blk_cell BK310.out 2).trans rfl
    have hcz14_3 : w5.cell? ⟨gb310, 3, none⟩ = some (.int .u64 a0_3) := (blk_cell BK310.out 3).trans rfl
    have hcz14_4 : w5.cell? ⟨gb310, 4, none⟩ = some (.string a0_4) := (blk_cell BK310.out 4).trans rfl
    have hcz14_5 : w5.cell? ⟨gb310, 5, none⟩ = some (.slice A0_5 l0_5.length c0_5) := (blk_cell BK310.out 5).trans rfl
    have hfz14_0 := blk_frozen BK310.out 0
    have hfz14_1 := blk_frozen BK310.out 1
    have hfz14_2 := blk_frozen BK310.out 2
    have hfz14_3 := blk_frozen BK310.out 3
    have hfz14_4 := blk_frozen BK310.out 4
    have hfz14_5 := blk_frozen BK310.out 5
    have hcz15_0 : w5.cell? ⟨gb311, 0, none⟩ = some (.int .u64 0) := (blk_cell BK311.out 0).trans rfl
    have hcz15_1 : w5.cell? ⟨gb311, 1, none⟩ = some (.int .u64 0) := (blk_cell BK311.out 1).trans rfl
    have hcz15_2 : w5.cell? ⟨gb311, 2, none⟩ = some (.string (⟨#[]⟩ : ByteArray)) := (blk_cell BK311.out 2).trans rfl
    have hcz15_3 : w5.cell? ⟨gb311, 3, none⟩ = some (.slice none 0 0) := (blk_cell BK311.out 3).trans rfl
    have hfz15_0 := blk_frozen BK311.out 0
    have hfz15_1 := blk_frozen BK311.out 1
    have hfz15_2 := blk_frozen BK311.out 2
    have hfz15_3 := blk_frozen BK311.out 3
    go_wp2
    go_meet
    case rel => exact ⟨_, (true), (by first | rfl | (simp; done) | (simp [*]; done)), H', ⟨by first | omega | exact Nat.le_refl _⟩, ⟨by (with_reducible repeat (first | refine blk_drewN ?_ _ | refine blk_drew ?_ | refine blk_alloc ?_ _)); refine blk_far ?_ NB310_311.out _; (with_reducible repeat (first | refine blk_drewN ?_ _ | refine blk_drew ?_ | refine blk_alloc ?_ _)); refine blk_far ?_ NB310_311.out _; (with_reducible repeat (first | refine blk_drewN ?_ _ | refine blk_drew ?_ | refine blk_alloc ?_ _)); refine blk_far ?_ NB310_311.out _; (with_reducible repeat (first | refine blk_drewN ?_ _ | refine blk_drew ?_ | refine blk_alloc ?_ _)); refine blk_far ?_ NB310_311.out _; (with_reducible repeat (first | refine blk_drewN ?_ _ | refine blk_drew ?_ | refine blk_alloc ?_ _)); exact BK310.out⟩, ⟨by (with_reducible repeat (first | refine blk_drewN ?_ _ | refine blk_drew ?_ | refine blk_alloc ?_ _)); refine blk_put (cs := #[.int .u64 a0_2, .int .u64 a0_3, .string a0_4, .slice none 0 0]) ?_ 3 _ rfl; (with_reducible repeat (first | refine blk_drewN ?_ _ | refine blk_drew ?_ | refine blk_alloc ?_ _)); refine blk_put (cs := #[.int .u64 a0_2, .int .u64 a0_3, .string (⟨#[]⟩ : ByteArray), .slice none 0 0]) ?_ 2 _ rfl; (with_reducible repeat (first | refine blk_drewN ?_ _ | refine blk_drew ?_ | refine blk_alloc ?_ _)); refine blk_put (cs := #[.int .u64 a0_2, .int .u64 0, .string (⟨#[]⟩ : ByteArray), .slice none 0 0]) ?_ 1 _ rfl; (with_reducible repeat (first | refine blk_drewN ?_ _ | refine blk_drew ?_ | refine blk_alloc ?_ _)); refine blk_put (cs := #[.int .u64 0, .int .u64 0, .string (⟨#[]⟩ : ByteArray), .slice none 0 0]) ?_ 0 _ rfl; (with_reducible repeat (first | refine blk_drewN ?_ _ | refine blk_drew ?_ | refine blk_alloc ?_ _)); exact BK311.out⟩, ⟨hx_ HB⟩⟩
   ·rw [if_neg c12] at H
    have c12b0 : decide (1099511627776 < a0_2) = false := decide_eq_false c12
    clear c12
    by_cases c16 : (l0_5.length : Int) > 1024
    ·rw [if_pos c16] at H
     have c16b0 : decide (1024 < (l0_5.length : Int)) = true := decide_eq_true c16
     have c16b1 : decide (1024 < l0_5.length) = true := decide_eq_true (by omega)
     clear c16
     have H' := am_ H
     clear H
     have hnb17 := NB310_311.out
     have hnc17 := NB311_310.out
     have hcz18_0 : w5.cell? ⟨gb310, 0, none⟩ = some (.int .u64 a0_0) := (blk_cell BK310.out 0).trans rfl
     have hcz18_1 : w5.cell? ⟨gb310, 1, none⟩ = some (.int .u64 a0_1) := (blk_cell BK310.out 1).trans rfl
     have hcz18_2 : w5.cell? ⟨gb310, 2, none⟩ = some (.int .u64 a0_2) := (blk_cell BK310.out 2).trans rfl
     have hcz18_3 : w5.cell? ⟨gb310, 3, none⟩ = some (.int .u64 a0_3) := (blk_cell BK310.out 3).trans rfl
     have hcz18_4 : w5.cell? ⟨gb310, 4, none⟩ = some (.string a0_4) := (blk_cell BK310.out 4).trans rfl
     have hcz18_5 : w5.cell? ⟨gb310, 5, none⟩ = some (.slice A0_5 l0_5.length c0_5) := (blk_cell BK310.out 5).trans rfl
     have hfz18_0 := blk_frozen BK310.out 0
     have hfz18_1 := blk_frozen BK310.out 1
     have hfz18_2 := blk_frozen BK310.out 2
     have hfz18_3 := blk_frozen BK310.out 3
     have hfz18_4 := blk_frozen BK310.out 4
     have hfz18_5 := blk_frozen BK310.out 5
     have hcz19_0 : w5.cell? ⟨gb311, 0, none⟩ = some (.int .u64 0) := (blk_cell BK311.out 0).trans rfl
     have hcz19_1 : w5.cell? ⟨gb311, 1, none⟩ = some (.int .u64 0) := (blk_cell BK311.out 1).trans rfl
     have hcz19_2 : w5.cell? ⟨gb311, 2, none⟩ = some (.string (⟨#[]⟩ : ByteArray)) := (blk_cell BK311.out 2).trans rfl
     have hcz19_3 : w5.cell? ⟨gb311, 3, none⟩ = some (.slice none 0 0) := (blk_cell BK311.out 3).trans rfl
     have hfz19_0 := blk_frozen BK311.out 0
     have hfz19_1 := blk_frozen BK311.out 1
     have hfz19_2 := blk_frozen BK311.out 2
     have hfz19_3 := blk_frozen BK311.out 3
     go_wp2
     go_meet
     case rel => exact ⟨_, (true), (by first | rfl | (simp; done) | (simp [*]; done)), H', ⟨by first | omega | exact Nat.le_refl _⟩, ⟨by (with_reducible repeat (first | refine blk_drewN ?_ _ | refine blk_drew ?_ | refine blk_alloc ?_ _)); refine blk_far ?_ NB310_311.out _; (with_reducible repeat (first | refine blk_drewN ?_ _ | refine blk_drew ?_ | refine blk_alloc ?_ _)); refine blk_far ?_ NB310_311.out _; (with_reducible repeat (first | refine blk_drewN ?_ _ | refine blk_drew ?_ | refine blk_alloc ?_ _)); refine blk_far ?_ NB310_311.out _; (with_reducible repeat (first | refine blk_drewN ?_ _ | refine blk_drew ?_ | refine blk_alloc ?_ _)); refine blk_far ?_ NB310_311.out _; (with_reducible repeat (first | refine blk_drewN ?_ _ | refine blk_drew ?_ | refine blk_alloc ?_ _)); exact BK310.out⟩, ⟨by (with_reducible repeat (first | refine blk_drewN ?_ _ | refine blk_drew ?_ | refine blk_alloc ?_ _)); refine blk_put (cs := #[.int .u64 a0_2, .int .u64 a0_3, .string a0_4, .slice none 0 0]) ?_ 3 _ rfl; (with_reducible repeat (first | refine blk_drewN ?_ _ | refine blk_drew ?_ | refine blk_alloc ?_ _)); refine blk_put (cs := #[.int .u64 a0_2, .int .u64 a0_3, .string (⟨#[]⟩ : ByteArray), .slice none 0 0]) ?_ 2 _ rfl; (with_reducible repeat (first | refine blk_drewN ?_ _ | refine blk_drew ?_ | refine blk_alloc ?_ _)); refine blk_put (cs := #[.int .u64 a0_2, .int .u64 0, .string (⟨#[]⟩ : ByteArray), .slice none 0 0]) ?_ 1 _ rfl; (with_reducible repeat (first | refine blk_drewN ?_ _ | refine blk_drew ?_ | refine blk_alloc ?_ _)); refine blk_put (cs := #[.int .u64 0, .int .u64 0, .string (⟨#[]⟩ : ByteArray), .slice none 0 0]) ?_ 0 _ rfl; (with_reducible repeat (first | refine blk_drewN ?_ _ | refine blk_drew ?_ | refine blk_alloc ?_ _)); exact BK311.out⟩, ⟨hx_ HB⟩⟩
    ·rw [if_neg c16] at H
     have c16b0 : decide (1024 < (l0_5.length : Int)) = false := decide_eq_false c16
     have c16b1 : decide (1024 < l0_5.length) = false := decide_eq_false (by omega)
     clear c16
     replace H := Option.bind_eq_some_iff.mp H
     obtain ⟨t312, A200, H⟩ := H
     replace H : (if t312 > 1099511627776 then (note_May.j0 k true a0_0 a0_1 a0_2 a0_3 a0_4 l0_5 a0_2 a0_3 a0_4 l0_5) else (if (a0_4.size : Int) > 4096 then (note_May.j0 k true a0_0 a0_1 a0_2 a0_3 a0_4 l0_5 a0_2 a0_3 a0_4 l0_5) else (note_May.j0 k (decide (a0_3 > a0_0)) a0_0 a0_1 a0_2 a0_3 a0_4 l0_5 a0_2 a0_3 a0_4 l0_5))) = some r := H
     have A20 := am_ A200
     clear A200
     by_cases c21 : t312 > 1099511627776
     ·rw [if_pos c21] at H
      have c21b0 : decide (1099511627776 < t312) = true := decide_eq_true c21
      clear c21
      have H' := am_ H
      clear H
      have hnb22 := NB310_311.out
      have hnc22 := NB311_310.out
      have hcz23_0 : w5.cell? ⟨gb310, 0, none⟩ = some (.int .u64 a0_0) := (blk_cell BK310.out 0).trans rfl
      have hcz23_1 : w5.cell? ⟨gb310, 1, none⟩ = some (.int .u64 a0_1) := (blk_cell BK310.out 1).trans rfl
      have hcz23_2 : w5.cell? ⟨gb310, 2, none⟩ = some (.int .u64 a0_2) := (blk_cell BK310.out 2).trans rfl
      have hcz23_3 : w5.cell? ⟨gb310, 3, none⟩ = some (.int .u64 a0_3) := (blk_cell BK310.out 3).trans rfl
      have hcz23_4 : w5.cell? ⟨gb310, 4, none⟩ = some (.string a0_4) := (blk_cell BK310.out 4).trans rfl
      have hcz23_5 : w5.cell? ⟨gb310, 5, none⟩ = some (.slice A0_5 l0_5.length c0_5) := (blk_cell BK310.out 5).trans rfl
      have hfz23_0 := blk_frozen BK310.out 0
      have hfz23_1 := blk_frozen BK310.out 1
      have hfz23_2 := blk_frozen BK310.out 2
      have hfz23_3 := blk_frozen BK310.out 3
      have hfz23_4 := blk_frozen BK310.out 4
      have hfz23_5 := blk_frozen BK310.out 5
      have hcz24_0 : w5.cell? ⟨gb311, 0, none⟩ = some (.int .u64 0) := (blk_cell BK311.out 0).trans rfl
      have hcz24_1 : w5.cell? ⟨gb311, 1, none⟩ = some (.int .u64 0) := (blk_cell BK311.out 1).trans rfl
      have hcz24_2 : w5.cell? ⟨gb311, 2, none⟩ = some (.string (⟨#[]⟩ : ByteArray)) := (blk_cell BK311.out 2).trans rfl
      have hcz24_3 : w5.cell? ⟨gb311, 3, none⟩ = some (.slice none 0 0) := (blk_cell BK311.out 3).trans rfl
      have hfz24_0 := blk_frozen BK311.out 0
      have hfz24_1 := blk_frozen BK311.out 1
      have hfz24_2 := blk_frozen BK311.out 2
      have hfz24_3 := blk_frozen BK311.out 3
      go_wp2_with (first | (go_at_call 42; (with_reducible refine (note_last.calls a0_2 a0_3 a0_4 _ _ l0_5 t312 _ ?side1 ?side2 A20.out).mono ?_); (case side1 => exact Kd.C_below HR0_5.out (hx_ HB)); (case side2 => exact HC0_5.out); rintro e w25 ⟨rfl, hb⟩; have n0_ := am_ (blk_below (g := gb310) (o := .cells #[.int .u64 a0_0, .int .u64 a0_1, .int .u64 a0_2, .int .u64 a0_3, .string a0_4, .slice A0_5 l0_5.length c0_5] 30 (0, 0)) (by (with_reducible repeat (first | refine blk_drewN ?_ _ | refine blk_drew ?_ | refine blk_alloc ?_ _)); refine blk_far ?_ NB310_311.out _; (with_reducible repeat (first | refine blk_drewN ?_ _ | refine blk_drew ?_ | refine blk_alloc ?_ _)); refine blk_far ?_ NB310_311.out _; (with_reducible repeat (first | refine blk_drewN ?_ _ | refine blk_drew ?_ | refine blk_alloc ?_ _)); refine blk_far ?_ NB310_311.out _; (with_reducible repeat (first | refine blk_drewN ?_ _ | refine blk_drew ?_ | refine blk_alloc ?_ _)); refine blk_far ?_ NB310_311.out _; (with_reducible repeat (first | refine blk_drewN ?_ _ | refine blk_drew ?_ | refine blk_alloc ?_ _)); exact BK310.out) hb); have n1_ := am_ (blk_below (g := gb311) (o := .cells #[.int .u64 a0_2, .int .u64 a0_3, .string a0_4, .slice A0_5 l0_5.length c0_5] 28 (0, 0)) (by (with_reducible repeat (first | refine blk_drewN ?_ _ | refine blk_drew ?_ | refine blk_alloc ?_ _)); refine blk_put (cs := #[.int .u64 a0_2, .int .u64 a0_3, .string a0_4, .slice none 0 0]) ?_ 3 _ rfl; (with_reducible repeat (first | refine blk_drewN ?_ _ | refine blk_drew ?_ | refine blk_alloc ?_ _)); refine blk_put (cs := #[.int .u64 a0_2, .int .u64 a0_3, .string (⟨#[]⟩ : ByteArray), .slice none 0 0]) ?_ 2 _ rfl; (with_reducible repeat (first | refine blk_drewN ?_ _ | refine blk_drew ?_ | refine blk_alloc ?_ _)); refine blk_put (cs := #[.int .u64 a0_2, .int .u64 0, .string (⟨#[]⟩ : ByteArray), .slice none 0 0]) ?_ 1 _ rfl; (with_reducible repeat (first | refine blk_drewN ?_ _ | refine blk_drew ?_ | refine blk_alloc ?_ _)); refine blk_put (cs := #[.int .u64 0, .int .u64 0, .string (⟨#[]⟩ : ByteArray), .slice none 0 0]) ?_ 0 _ rfl; (with_reducible repeat (first | refine blk_drewN ?_ _ | refine blk_drew ?_ | refine blk_alloc ?_ _)); exact BK311.out) hb); have n2_ := am_ (below_step (by repeat (first | (with_reducible first | exact HB.out | apply below_alloc | apply pw_below_drewN | apply below_drew1 | refine below_set ?_ GE310.out | refine below_set ?_ GE311.out) | exact HB.out | exact Below.refl _ _)) hb); clear BK310; clear BK311; clear HB; have BK310 := n0_; have BK311 := n1_; have HB := n2_; clear n0_ n1_ n2_; (try clear hb); (try clear hb2); (try clear hk); (try clear hi)))
      go_meet
      case rel => exact ⟨_, (true), (by first | rfl | (simp; done) | (simp [*]; done)), H', ⟨by first | omega | exact Nat.le_refl _⟩, ⟨bx_ BK310⟩, ⟨bx_ BK311⟩, ⟨hx_ HB⟩⟩
     ·rw [if_neg c21] at H
      have c21b0 : decide (1099511627776 < t312) = false := decide_eq_false c21
      clear c21
      by_cases c26 : (a0_4.size : Int) > 4096
      ·rw [if_pos c26] at H
       have c26b0 : decide (4096 < (a0_4.size : Int)) = true := decide_eq_true c26
       have c26b1 : decide (4096 < a0_4.size) = true := decide_eq_true (by omega)
       clear c26
       have H' := am_ H
       clear H
       have hnb27 := NB310_311.out
       have hnc27 := NB311_310.out
       have hcz28_0 : w5.cell? ⟨gb310, 0, none⟩ = some (.int .u64 a0_0) := (blk_cell BK310.out 0).trans rfl
       have hcz28_1 : w5.cell? ⟨gb310, 1, none⟩ = some (.int .u64 a0_1) := (blk_cell BK310.out 1).trans rfl
       have hcz28_2 : w5.cell? ⟨gb310, 2, none⟩ = some (.int .u64 a0_2) := (blk_cell BK310.out 2).trans rfl
       have hcz28_3 : w5.cell? ⟨gb310, 3, none⟩ = some (.int .u64 a0_3) := (blk_cell BK310.out 3).trans rfl
       have hcz28_4 : w5.cell? ⟨gb310, 4, none⟩ = some (.string a0_4) := (blk_cell BK310.out 4).trans rfl
       have hcz28_5 : w5.cell? ⟨gb310, 5, none⟩ = some (.slice A0_5 l0_5.length c0_5) := (blk_cell BK310.out 5).trans rfl
       have hfz28_0 := blk_frozen BK310.out 0
       have hfz28_1 := blk_frozen BK310.out 1
       have hfz28_2 := blk_frozen BK310.out 2
       have hfz28_3 := blk_frozen BK310.out 3
       have hfz28_4 := blk_frozen BK310.out 4
       have hfz28_5 := blk_frozen BK310.out 5
       have hcz29_0 : w5.cell? ⟨gb311, 0, none⟩ = some (.int .u64 0) := (blk_cell BK311.out 0).trans rfl
       have hcz29_1 : w5.cell? ⟨gb311, 1, none⟩ = some (.int .u64 0) := (blk_cell BK311.out 1).trans rfl
       have hcz29_2 : w5.cell? ⟨gb311, 2, none⟩ = some (.string (⟨#[]⟩ : ByteArray)) := (blk_cell BK311.out 2).trans rfl
       have hcz29_3 : w5.cell? ⟨gb311, 3, none⟩ = some (.slice none 0 0) := (blk_cell BK311.out 3).trans rfl
       have hfz29_0 := blk_frozen BK311.out 0
       have hfz29_1 := blk_frozen BK311.out 1
       have hfz29_2 := blk_frozen BK311.out 2
       have hfz29_3 := blk_frozen BK311.out 3
       go_wp2_with (first | (go_at_call 42; (with_reducible refine (note_last.calls a0_2 a0_3 a0_4 _ _ l0_5 t312 _ ?side1 ?side2 A20.out).mono ?_); (case side1 => exact Kd.C_below HR0_5.out (hx_ HB)); (case side2 => exact HC0_5.out); rintro e w30 ⟨rfl, hb⟩; have n0_ := am_ (blk_below (g := gb310) (o := .cells #[.int .u64 a0_0, .int .u64 a0_1, .int .u64 a0_2, .int .u64 a0_3, .string a0_4, .slice A0_5 l0_5.length c0_5] 30 (0, 0)) (by (with_reducible repeat (first | refine blk_drewN ?_ _ | refine blk_drew ?_ | refine blk_alloc ?_ _)); refine blk_far ?_ NB310_311.out _; (with_reducible repeat (first | refine blk_drewN ?_ _ | refine blk_drew ?_ | refine blk_alloc ?_ _)); refine blk_far ?_ NB310_311.out _; (with_reducible repeat (first | refine blk_drewN ?_ _ | refine blk_drew ?_ | refine blk_alloc ?_ _)); refine blk_far ?_ NB310_311.out _; (with_reducible repeat (first | refine blk_drewN ?_ _ | refine blk_drew ?_ | refine blk_alloc ?_ _)); refine blk_far ?_ NB310_311.out _; (with_reducible repeat (first | refine blk_drewN ?_ _ | refine blk_drew ?_ | refine blk_alloc ?_ _)); exact BK310.out) hb); have n1_ := am_ (blk_below (g := gb311) (o := .cells #[.int .u64 a0_2, .int .u64 a0_3, .string a0_4, .slice A0_5 l0_5.length c0_5] 28 (0, 0)) (by (with_reducible repeat (first | refine blk_drewN ?_ _ | refine blk_drew ?_ | refine blk_alloc ?_ _)); refine blk_put (cs := #[.int .u64 a0_2, .int .u64 a0_3, .string a0_4, .slice none 0 0]) ?_ 3 _ rfl; (with_reducible repeat (first | refine blk_drewN ?_ _ | refine blk_drew ?_ | refine blk_alloc ?_ _)); refine blk_put (cs := #[.int .u64 a0_2, .int .u64 a0_3, .string (⟨#[]⟩ : ByteArray), .slice none 0 0]) ?_ 2 _ rfl; (with_reducible repeat (first | refine blk_drewN ?_ _ | refine blk_drew ?_ | refine blk_alloc ?_ _)); refine blk_put (cs := #[.int .u64 a0_2, .int .u64 0, .string (⟨#[]⟩ : ByteArray), .slice none 0 0]) ?_ 1 _ rfl; (with_reducible repeat (first | refine blk_drewN ?_ _ | refine blk_drew ?_ | refine blk_alloc ?_ _)); refine blk_put (cs := #[.int .u64 0, .int .u64 0, .string (⟨#[]⟩ : ByteArray), .slice none 0 0]) ?_ 0 _ rfl; (with_reducible repeat (first | refine blk_drewN ?_ _ | refine blk_drew ?_ | refine blk_alloc ?_ _)); exact BK311.out) hb); have n2_ := am_ (below_step (by repeat (first | (with_reducible first | exact HB.out | apply below_alloc | apply pw_below_drewN | apply below_drew1 | refine below_set ?_ GE310.out | refine below_set ?_ GE311.out) | exact HB.out | exact Below.refl _ _)) hb); clear BK310; clear BK311; clear HB; have BK310 := n0_; have BK311 := n1_; have HB := n2_; clear n0_ n1_ n2_; (try clear hb); (try clear hb2); (try clear hk); (try clear hi); have hcz31_0 : w30.cell? ⟨gb311, 0, none⟩ = some (.int .u64 a0_2) := (blk_cell BK311.out 0).trans rfl; have hcz31_1 : w30.cell? ⟨gb311, 1, none⟩ = some (.int .u64 a0_3) := (blk_cell BK311.out 1).trans rfl; have hcz31_2 : w30.cell? ⟨gb311, 2, none⟩ = some (.string a0_4) := (blk_cell BK311.out 2).trans rfl; have hcz31_3 : w30.cell? ⟨gb311, 3, none⟩ = some (.slice A0_5 l0_5.length c0_5) := (blk_cell BK311.out 3).trans rfl; have hfz31_0 := blk_frozen BK311.out 0; have hfz31_1 := blk_frozen BK311.out 1; have hfz31_2 := blk_frozen BK311.out 2; have hfz31_3 := blk_frozen BK311.out 3))
       go_meet
       case rel => exact ⟨_, (true), (by first | rfl | (simp; done) | (simp [*]; done)), H', ⟨by first | omega | exact Nat.le_refl _⟩, ⟨bx_ BK310⟩, ⟨bx_ BK311⟩, ⟨hx_ HB⟩⟩
      ·rw [if_neg c26] at H
       have c26b0 : decide (4096 < (a0_4.size : Int)) = false := decide_eq_false c26
       have c26b1 : decide (4096 < a0_4.size) = false := decide_eq_false (by omega)
       clear c26
       have H' := am_ H
       clear H
       have hnb32 := NB310_311.out
       have hnc32 := NB311_310.out
       have hcz33_0 : w5.cell? ⟨gb310, 0, none⟩ = some (.int .u64 a0_0) := (blk_cell BK310.out 0).trans rfl
       have hcz33_1 : w5.cell? ⟨gb310, 1, none⟩ = some (.int .u64 a0_1) := (blk_cell BK310.out 1).trans rfl
       have hcz33_2 : w5.cell? ⟨gb310, 2, none⟩ = some (.int .u64 a0_2) := (blk_cell BK310.out 2).trans rfl
       have hcz33_3 : w5.cell? ⟨gb310, 3, none⟩ = some (.int .u64 a0_3) := (blk_cell BK310.out 3).trans rfl
       have hcz33_4 : w5.cell? ⟨gb310, 4, none⟩ = some (.string a0_4) := (blk_cell BK310.out 4).trans rfl
       have hcz33_5 : w5.cell? ⟨gb310, 5, none⟩ = some (.slice A0_5 l0_5.length c0_5) := (blk_cell BK310.out 5).trans rfl
       have hfz33_0 := blk_frozen BK310.out 0
       have hfz33_1 := blk_frozen BK310.out 1
       have hfz33_2 := blk_frozen BK310.out 2
       have hfz33_3 := blk_frozen BK310.out 3
       have hfz33_4 := blk_frozen BK310.out 4
       have hfz33_5 := blk_frozen BK310.out 5
       have hcz34_0 : w5.cell? ⟨gb311, 0, none⟩ = some (.int .u64 0) := (blk_cell BK311.out 0).trans rfl
       have hcz34_1 : w5.cell? ⟨gb311, 1, none⟩ = some (.int .u64 0) := (blk_cell BK311.out 1).trans rfl
       have hcz34_2 : w5.cell? ⟨gb311, 2, none⟩ = some (.string (⟨#[]⟩ : ByteArray)) := (blk_cell BK311.out 2).trans rfl
       have hcz34_3 : w5.cell? ⟨gb311, 3, none⟩ = some (.slice none 0 0) := (blk_cell BK311.out 3).trans rfl
       have hfz34_0 := blk_frozen BK311.out 0
       have hfz34_1 := blk_frozen BK311.out 1
       have hfz34_2 := blk_frozen BK311.out 2
       have hfz34_3 := blk_frozen BK311.out 3
       go_wp2_with (first | (go_at_call 42; (with_reducible refine (note_last.calls a0_2 a0_3 a0_4 _ _ l0_5 t312 _ ?side1 ?side2 A20.out).mono ?_); (case side1 => exact Kd.C_below HR0_5.out (hx_ HB)); (case side2 => exact HC0_5.out); rintro e w35 ⟨rfl, hb⟩; have n0_ := am_ (blk_below (g := gb310) (o := .cells #[.int .u64 a0_0, .int .u64 a0_1, .int .u64 a0_2, .int .u64 a0_3, .string a0_4, .slice A0_5 l0_5.length c0_5] 30 (0, 0)) (by (with_reducible repeat (first | refine blk_drewN ?_ _ | refine blk_drew ?_ | refine blk_alloc ?_ _)); refine blk_far ?_ NB310_311.out _; (with_reducible repeat (first | refine blk_drewN ?_ _ | refine blk_drew ?_ | refine blk_alloc ?_ _)); refine blk_far ?_ NB310_311.out _; (with_reducible repeat (first | refine blk_drewN ?_ _ | refine blk_drew ?_ | refine blk_alloc ?_ _)); refine blk_far ?_ NB310_311.out _; (with_reducible repeat (first | refine blk_drewN ?_ _ | refine blk_drew ?_ | refine blk_alloc ?_ _)); refine blk_far ?_ NB310_311.out _; (with_reducible repeat (first | refine blk_drewN ?_ _ | refine blk_drew ?_ | refine blk_alloc ?_ _)); exact BK310.out) hb); have n1_ := am_ (blk_below (g := gb311) (o := .cells #[.int .u64 a0_2, .int .u64 a0_3, .string a0_4, .slice A0_5 l0_5.length c0_5] 28 (0, 0)) (by (with_reducible repeat (first | refine blk_drewN ?_ _ | refine blk_drew ?_ | refine blk_alloc ?_ _)); refine blk_put (cs := #[.int .u64 a0_2, .int .u64 a0_3, .string a0_4, .slice none 0 0]) ?_ 3 _ rfl; (with_reducible repeat (first | refine blk_drewN ?_ _ | refine blk_drew ?_ | refine blk_alloc ?_ _)); refine blk_put (cs := #[.int .u64 a0_2, .int .u64 a0_3, .string (⟨#[]⟩ : ByteArray), .slice none 0 0]) ?_ 2 _ rfl; (with_reducible repeat (first | refine blk_drewN ?_ _ | refine blk_drew ?_ | refine blk_alloc ?_ _)); refine blk_put (cs := #[.int .u64 a0_2, .int .u64 0, .string (⟨#[]⟩ : ByteArray), .slice none 0 0]) ?_ 1 _ rfl; (with_reducible repeat (first | refine blk_drewN ?_ _ | refine blk_drew ?_ | refine blk_alloc ?_ _)); refine blk_put (cs := #[.int .u64 0, .int .u64 0, .string (⟨#[]⟩ : ByteArray), .slice none 0 0]) ?_ 0 _ rfl; (with_reducible repeat (first | refine blk_drewN ?_ _ | refine blk_drew ?_ | refine blk_alloc ?_ _)); exact BK311.out) hb); have n2_ := am_ (below_step (by repeat (first | (with_reducible first | exact HB.out | apply below_alloc | apply pw_below_drewN | apply below_drew1 | refine below_set ?_ GE310.out | refine below_set ?_ GE311.out) | exact HB.out | exact Below.refl _ _)) hb); clear BK310; clear BK311; clear HB; have BK310 := n0_; have BK311 := n1_; have HB := n2_; clear n0_ n1_ n2_; (try clear hb); (try clear hb2); (try clear hk); (try clear hi); have hcz36_0 : w35.cell? ⟨gb311, 0, none⟩ = some (.int .u64 a0_2) := (blk_cell BK311.out 0).trans rfl; have hcz36_1 : w35.cell? ⟨gb311, 1, none⟩ = some (.int .u64 a0_3) := (blk_cell BK311.out 1).trans rfl; have hcz36_2 : w35.cell? ⟨gb311, 2, none⟩ = some (.string a0_4) := (blk_cell BK311.out 2).trans rfl; have hcz36_3 : w35.cell? ⟨gb311, 3, none⟩ = some (.slice A0_5 l0_5.length c0_5) := (blk_cell BK311.out 3).trans rfl; have hfz36_0 := blk_frozen BK311.out 0; have hfz36_1 := blk_frozen BK311.out 1; have hfz36_2 := blk_frozen BK311.out 2; have hfz36_3 := blk_frozen BK311.out 3; have hcz37_0 : w35.cell? ⟨gb310, 0, none⟩ = some (.int .u64 a0_0) := (blk_cell BK310.out 0).trans rfl; have hcz37_1 : w35.cell? ⟨gb310, 1, none⟩ = some (.int .u64 a0_1) := (blk_cell BK310.out 1).trans rfl; have hcz37_2 : w35.cell? ⟨gb310, 2, none⟩ = some (.int .u64 a0_2) := (blk_cell BK310.out 2).trans rfl; have hcz37_3 : w35.cell? ⟨gb310, 3, none⟩ = some (.int .u64 a0_3) := (blk_cell BK310.out 3).trans rfl; have hcz37_4 : w35.cell? ⟨gb310, 4, none⟩ = some (.string a0_4) := (blk_cell BK310.out 4).trans rfl; have hcz37_5 : w35.cell? ⟨gb310, 5, none⟩ = some (.slice A0_5 l0_5.length c0_5) := (blk_cell BK310.out 5).trans rfl; have hfz37_0 := blk_frozen BK310.out 0; have hfz37_1 := blk_frozen BK310.out 1; have hfz37_2 := blk_frozen BK310.out 2; have hfz37_3 := blk_frozen BK310.out 3; have hfz37_4 := blk_frozen BK310.out 4; have hfz37_5 := blk_frozen BK310.out 5))
       go_meet
       case rel => exact ⟨_, (decide (a0_3 > a0_0)), (by first | rfl | (simp; done) | (simp [*]; done)), H', ⟨by first | omega | exact Nat.le_refl _⟩, ⟨bx_ BK310⟩, ⟨bx_ BK311⟩, ⟨hx_ HB⟩⟩
 case rest =>
  clear HC2
  try clear c1
  try clear c2
  try clear p2
  try clear c3
  try clear c6
  try clear c9
  try clear c9b0
  try clear c10
  try clear c12
  try clear c12b0
  try clear c13
  try clear c16
  try clear c16b0
  try clear c16b1
  try clear c17
  try clear c21
  try clear c21b0
  try clear c22
  try clear c26
  try clear c26b0
  try clear c26b1
  try clear c27
  try clear c29
  try clear c32
  try clear hcz11_0
  try clear hcz11_1
  try clear hcz11_2
  try clear hcz11_3
  try clear hcz11_4
  try clear hcz11_5
  try clear hcz14_0
  try clear hcz14_1
  try clear hcz14_2
  try clear hcz14_3
  try clear hcz14_4
  try clear hcz14_5
  try clear hcz15_0
  try clear hcz15_1
  try clear hcz15_2
  try clear hcz15_3
  try clear hcz18_0
  try clear hcz18_1
  try clear hcz18_2
  try clear hcz18_3
  try clear hcz18_4
  try clear hcz18_5
  try clear hcz19_0
  try clear hcz19_1
  try clear hcz19_2
  try clear hcz19_3
  try clear hcz23_0
  try clear hcz23_1
  try clear hcz23_2
  try clear hcz23_3
  try clear hcz23_4
  try clear hcz23_5
  try clear hcz24_0
  try clear hcz24_1
  try clear hcz24_2
  try clear hcz24_3
  try clear hcz28_0
  try clear hcz28_1
  try clear hcz28_2
  try clear hcz28_3
  try clear hcz28_4
  try clear hcz28_5
  try clear hcz29_0
  try clear hcz29_1
  try clear hcz29_2
  try clear hcz29_3
  try clear hcz31_0
  try clear hcz31_1
  try clear hcz31_2
  try clear hcz31_3
  try clear hcz33_0
  try clear hcz33_1
  try clear hcz33_2
  try clear hcz33_3
  try clear hcz33_4
  try clear hcz33_5
  try clear hcz34_0
  try clear hcz34_1
  try clear hcz34_2
  try clear hcz34_3
  try clear hcz36_0
  try clear hcz36_1
  try clear hcz36_2
  try clear hcz36_3
  try clear hcz37_0
  try clear hcz37_1
  try clear hcz37_2
  try clear hcz37_3
  try clear hcz37_4
  try clear hcz37_5
  try clear hcz4_0
  try clear hcz4_1
  try clear hcz4_2
  try clear hcz4_3
  try clear hcz4_4
  try clear hcz4_5
  try clear hcz7_0
  try clear hcz7_1
  try clear hcz7_2
  try clear hcz7_3
  try clear hfz11_0
  try clear hfz11_1
  try clear hfz11_2
  try clear hfz11_3
  try clear hfz11_4
  try clear hfz11_5
  try clear hfz14_0
  try clear hfz14_1
  try clear hfz14_2
  try clear hfz14_3
  try clear hfz14_4
  try clear hfz14_5
  try clear hfz15_0
  try clear hfz15_1
  try clear hfz15_2
  try clear hfz15_3
  try clear hfz18_0
  try clear hfz18_1
  try clear hfz18_2
  try clear hfz18_3
  try clear hfz18_4
  try clear hfz18_5
  try clear hfz19_0
  try clear hfz19_1
  try clear hfz19_2
  try clear hfz19_3
  try clear hfz23_0
  try clear hfz23_1
  try clear hfz23_2
  try clear hfz23_3
  try clear hfz23_4
  try clear hfz23_5
  try clear hfz24_0
  try clear hfz24_1
  try clear hfz24_2
  try clear hfz24_3
  try clear hfz28_0
  try clear hfz28_1
  try clear hfz28_2
  try clear hfz28_3
  try clear hfz28_4
  try clear hfz28_5
  try clear hfz29_0
  try clear hfz29_1
  try clear hfz29_2
  try clear hfz29_3
  try clear hfz31_0
  try clear hfz31_1
  try clear hfz31_2
  try clear hfz31_3
  try clear hfz33_0
  try clear hfz33_1
  try clear hfz33_2
  try clear hfz33_3
  try clear hfz33_4
  try clear hfz33_5
  try clear hfz34_0
  try clear hfz34_1
  try clear hfz34_2
  try clear hfz34_3
  try clear hfz36_0
  try clear hfz36_1
  try clear hfz36_2
  try clear hfz36_3
  try clear hfz37_0
  try clear hfz37_1
  try clear hfz37_2
  try clear hfz37_3
  try clear hfz37_4
  try clear hfz37_5
  try clear hfz4_0
  try clear hfz4_1
  try clear hfz4_2
  try clear hfz4_3
  try clear hfz4_4
  try clear hfz4_5
  try clear hfz7_0
  try clear hfz7_1
  try clear hfz7_2
  try clear hfz7_3
  obtain ⟨kq, x43_1, rfl, HA, HJ1, BK310, BK311, HB⟩ := hcut
  cases kq with
  | zero => exact absurd HA.out (by simp [note_May.j0])
  | succ kj1 =>
   have H := HA.out
   clear HA
   simp only [note_May.j0] at H
   by_cases c38 : x43_1 = true
   ·subst c38
    have H1 : (some false) = some r := by rw [if_pos rfl] at H; exact H
    clear H
    have H := H1
    clear H1
    obtain rfl := Option.some.inj H
    go_wp2
    go_ret
    exact ⟨by first | rfl | (simp [errW_none, errW_some] <;> rfl) | (simp [*, errW_none, errW_some] <;> rfl), hx_ HB⟩
   ·replace c38 := Bool.eq_false_iff.mpr c38
    subst c38
    have H1 : (if a0_2 = 0 then (if a0_3 = 0 then (note_May.j1 kj1 (a0_4.toList != ([] : List UInt8)) a0_0 a0_1 a0_2 a0_3 a0_4 l0_5 a0_2 a0_3 a0_4 l0_5) else (note_May.j1 kj1 true a0_0 a0_1 a0_2 a0_3 a0_4 l0_5 a0_2 a0_3 a0_4 l0_5)) else (note_May.j1 kj1 false a0_0 a0_1 a0_2 a0_3 a0_4 l0_5 a0_2 a0_3 a0_4 l0_5)) = some r := by rw [if_neg (show ¬ (false = true) by decide)] at H; exact H
    clear H
    have H := H1
    clear H1
    have HC39 := am_ H
    clear H
    go_upto_region 4 with (fail)
    go_cut [56] (fun v56 wc => ∃ (kq : Nat) (x56_38 : Bool), v56 = .bool x56_38 ∧ Aside0 (note_May.j1 kq x56_38 a0_0 a0_1 a0_2 a0_3 a0_4 l0_5 a0_2 a0_3 a0_4 l0_5 = some r) ∧ Aside0 (kq ≤ kj1) ∧ Aside0 (wc.heap[gb310]? = some (.cells #[.int .u64 a0_0, .int .u64 a0_1, .int .u64 a0_2, .int .u64 a0_3, .string a0_4, (.slice A0_5 l0_5.length c0_5)] 30 (0, 0))) ∧ Aside0 (wc.heap[gb311]? = some (.cells #[.int .u64 a0_2, .int .u64 a0_3, .string a0_4, (.slice A0_5 l0_5.length c0_5)] 28 (0, 0))) ∧ Aside0 (Below w.heap.size w wc))
    case first =>
     have H := HC39.out
     clear HC39
     by_cases c40 : a0_2 = 0
     ·rw [if_pos c40] at H
      have c40b0 : (a0_2 == 0) = true := beq_iff_eq.mpr c40
      have c40b1 : (a0_2 != 0) = false := bne_eq_false_iff_eq.mpr c40
      clear c40
      (first | rw [c40b0] | (simp only [i64_w, i32_w]; rw [c40b0]) | skip)
      by_cases c41 : a0_3 = 0
      ·rw [if_pos c41] at H
       have c41b0 : (a0_3 == 0) = true := beq_iff_eq.mpr c41
       have c41b1 : (a0_3 != 0) = false := bne_eq_false_iff_eq.mpr c41
       clear c41
       have H' := am_ H
       clear H
       have hnb42 := NB311_310.out
       have hnc42 := NB310_311.out
       have hcz43_0 : wc.cell? ⟨gb311, 0, none⟩ = some (.int .u64 a0_2) := (blk_cell BK311.out 0).trans rfl
       have hcz43_1 : wc.cell? ⟨gb311, 1, none⟩ = some (.int .u64 a0_3) := (blk_cell BK311.out 1).trans rfl
       have hcz43_2 : wc.cell? ⟨gb311, 2, none⟩ = some (.string a0_4) := (blk_cell BK311.out 2).trans rfl
       have hcz43_3 : wc.cell? ⟨gb311, 3, none⟩ = some (.slice A0_5 l0_5.length c0_5) := (blk_cell BK311.out 3).trans rfl
       have hfz43_0 := blk_frozen BK311.out 0
       have hfz43_1 := blk_frozen BK311.out 1
       have hfz43_2 := blk_frozen BK311.out 2
       have hfz43_3 := blk_frozen BK311.out 3
       go_wp2
       go_meet
       case rel => exact ⟨_, ((a0_4.toList != ([] : List UInt8))), (by first | rfl | (simp; done) | (simp [*]; done) | (cases a0_4.toList <;> rfl)), H', ⟨by have := HJ1.out; first | omega | exact Nat.le_refl _⟩, ⟨bx_ BK310⟩, ⟨bx_ BK311⟩, ⟨hx_ HB⟩⟩
      ·rw [if_neg c41] at H
       have c41b0 : (a0_3 == 0) = false := beq_eq_false_iff_ne.mpr c41
       have c41b1 : (a0_3 != 0) = true := bne_iff_ne.mpr c41
       have H' := am_ H
       clear H
       have hnb44 := NB311_310.out
       have hnc44 := NB310_311.out
       have hcz45_0 : wc.cell? ⟨gb311, 0, none⟩ = some (.int .u64 a0_2) := (blk_cell BK311.out 0).trans rfl
       have hcz45_1 : wc.cell? ⟨gb311, 1, none⟩ = some (.int .u64 a0_3) := (blk_cell BK311.out 1).trans rfl
       have hcz45_2 : wc.cell? ⟨gb311, 2, none⟩ = some (.string a0_4) := (blk_cell BK311.out 2).trans rfl
       have hcz45_3 : wc.cell? ⟨gb311, 3, none⟩ = some (.slice A0_5 l0_5.length c0_5) := (blk_cell BK311.out 3).trans rfl
       have hfz45_0 := blk_frozen BK311.out 0
       have hfz45_1 := blk_frozen BK311.out 1
       have hfz45_2 := blk_frozen BK311.out 2
       have hfz45_3 := blk_frozen BK311.out 3
       go_wp2
       go_meet
       case rel => exact ⟨_, (true), (by first | rfl | (simp; done) | (simp [*]; done)), H', ⟨by have := HJ1.out; first | omega | exact Nat.le_refl _⟩, ⟨bx_ BK310⟩, ⟨bx_ BK311⟩, ⟨hx_ HB⟩⟩
     ·rw [if_neg c40] at H
      have c40b0 : (a0_2 == 0) = false := beq_eq_false_iff_ne.mpr c40
      have c40b1 : (a0_2 != 0) = true := bne_iff_ne.mpr c40
      (first | rw [c40b0] | (simp only [i64_w, i32_w]; rw [c40b0]) | skip)
      have H' := am_ H
      clear H
      have hnb46 := NB311_310.out
      have hnc46 := NB310_311.out
      have hcz47_0 : wc.cell? ⟨gb311, 0, none⟩ = some (.int .u64 a0_2) := (blk_cell BK311.out 0).trans rfl
      have hcz47_1 : wc.cell? ⟨gb311, 1, none⟩ = some (.int .u64 a0_3) := (blk_cell BK311.out 1).trans rfl
      have hcz47_2 : wc.cell? ⟨gb311, 2, none⟩ = some (.string a0_4) := (blk_cell BK311.out 2).trans rfl
      have hcz47_3 : wc.cell? ⟨gb311, 3, none⟩ = some (.slice A0_5 l0_5.length c0_5) := (blk_cell BK311.out 3).trans rfl
      have hfz47_0 := blk_frozen BK311.out 0
      have hfz47_1 := blk_frozen BK311.out 1
      have hfz47_2 := blk_frozen BK311.out 2
      have hfz47_3 := blk_frozen BK311.out 3
      go_wp2
      go_meet
      case rel => exact ⟨_, (false), (by first | rfl | (simp; done) | (simp [*]; done)), H', ⟨by have := HJ1.out; first | omega | exact Nat.le_refl _⟩, ⟨bx_ BK310⟩, ⟨bx_ BK311⟩, ⟨hx_ HB⟩⟩
    case rest =>
     clear HC39
     try clear c1
     try clear c2
     try clear p2
     try clear c3
     try clear c4
     try clear c6
     try clear c9
     try clear c9b0
     try clear c10
     try clear c12
     try clear c12b0
     try clear c13
     try clear c16
     try clear c16b0
     try clear c16b1
     try clear c17
     try clear c21
     try clear c21b0
     try clear c22
     try clear c26
     try clear c26b0
     try clear c26b1
     try clear c27
     try clear c29
     try clear c32
     try clear c38
     try clear c40
     try clear c40b0
     try clear c40b1
     try clear c41
     try clear c41b0
     try clear c41b1
     try clear c42
     try clear c44
     try clear c46
     try clear hcz11_0
     try clear hcz11_1
     try clear hcz11_2
     try clear hcz11_3
     try clear hcz11_4
     try clear hcz11_5
     try clear hcz14_0
     try clear hcz14_1
     try clear hcz14_2
     try clear hcz14_3
     try clear hcz14_4
     try clear hcz14_5
     try clear hcz15_0
     try clear hcz15_1
     try clear hcz15_2
     try clear hcz15_3
     try clear hcz18_0
     try clear hcz18_1
     try clear hcz18_2
     try clear hcz18_3
     try clear hcz18_4
     try clear hcz18_5
     try clear hcz19_0
     try clear hcz19_1
     try clear hcz19_2
     try clear hcz19_3
     try clear hcz23_0
     try clear hcz23_1
     try clear hcz23_2
     try clear hcz23_3
     try clear hcz23_4
     try clear hcz23_5
     try clear hcz24_0
     try clear hcz24_1
     try clear hcz24_2
     try clear hcz24_3
     try clear hcz28_0
     try clear hcz28_1
     try clear hcz28_2
     try clear hcz28_3
     try clear hcz28_4
     try clear hcz28_5
     try clear hcz29_0
     try clear hcz29_1
     try clear hcz29_2
     try clear hcz29_3
     try clear hcz31_0
     try clear hcz31_1
     try clear hcz31_2
     try clear hcz31_3
     try clear hcz33_0
     try clear hcz33_1
     try clear hcz33_2
     try clear hcz33_3
     try clear hcz33_4
     try clear hcz33_5
     try clear hcz34_0
     try clear hcz34_1
     try clear hcz34_2
     try clear hcz34_3
     try clear hcz36_0
     try clear hcz36_1
     try clear hcz36_2
     try clear hcz36_3
     try clear hcz37_0
     try clear hcz37_1
     try clear hcz37_2
     try clear hcz37_3
     try clear hcz37_4
     try clear hcz37_5
     try clear hcz43_0
     try clear hcz43_1
     try clear hcz43_2
     try clear hcz43_3
     try clear hcz45_0
     try clear hcz45_1
     try clear hcz45_2
     try clear hcz45_3
     try clear hcz47_0
     try clear hcz47_1
     try clear hcz47_2
     try clear hcz47_3
     try clear hcz4_0
     try clear hcz4_1
     try clear hcz4_2
     try clear hcz4_3
     try clear hcz4_4
     try clear hcz4_5
     try clear hcz7_0
     try clear hcz7_1
     try clear hcz7_2
     try clear hcz7_3
     try clear hfz11_0
     try clear hfz11_1
     try clear hfz11_2
     try clear hfz11_3
     try clear hfz11_4
     try clear hfz11_5
     try clear hfz14_0
     try clear hfz14_1
     try clear hfz14_2
     try clear hfz14_3
     try clear hfz14_4
     try clear hfz14_5
     try clear hfz15_0
     try clear hfz15_1
     try clear hfz15_2
     try clear hfz15_3
     try clear hfz18_0
     try clear hfz18_1
     try clear hfz18_2
     try clear hfz18_3
     try clear hfz18_4
     try clear hfz18_5
     try clear hfz19_0
     try clear hfz19_1
     try clear hfz19_2
     try clear hfz19_3
     try clear hfz23_0
     try clear hfz23_1
     try clear hfz23_2
     try clear hfz23_3
     try clear hfz23_4
     try clear hfz23_5
     try clear hfz24_0
     try clear hfz24_1
     try clear hfz24_2
     try clear hfz24_3
     try clear hfz28_0
     try clear hfz28_1
     try clear hfz28_2
     try clear hfz28_3
     try clear hfz28_4
     try clear hfz28_5
     try clear hfz29_0
     try clear hfz29_1
     try clear hfz29_2
     try clear hfz29_3
     try clear hfz31_0
     try clear hfz31_1
     try clear hfz31_2
     try clear hfz31_3
     try clear hfz33_0
     try clear hfz33_1
     try clear hfz33_2
     try clear hfz33_3
     try clear hfz33_4
     try clear hfz33_5
     try clear hfz34_0
     try clear hfz34_1
     try clear hfz34_2
     try clear hfz34_3
     try clear hfz36_0
     try clear hfz36_1
     try clear hfz36_2
     try clear hfz36_3
     try clear hfz37_0
     try clear hfz37_1
     try clear hfz37_2
     try clear hfz37_3
     try clear hfz37_4
     try clear hfz37_5
     try clear hfz43_0
     try clear hfz43_1
     try clear hfz43_2
     try clear hfz43_3
     try clear hfz45_0
     try clear hfz45_1
     try clear hfz45_2
     try clear hfz45_3
     try clear hfz47_0
     try clear hfz47_1
     try clear hfz47_2
     try clear hfz47_3
     try clear hfz4_0
     try clear hfz4_1
     try clear hfz4_2
     try clear hfz4_3
     try clear hfz4_4
     try clear hfz4_5
     try clear hfz7_0
     try clear hfz7_1
     try clear hfz7_2
     try clear hfz7_3
     try clear p2
     obtain ⟨kq, x56_38, rfl, HA, HJ38, BK310, BK311, HB⟩ := hcut
     cases kq with
     | zero => exact absurd HA.out (by simp [note_May.j1])
     | succ kj38 =>
      have H := HA.out
      clear HA
      simp only [note_May.j1] at H
      by_cases c48 : x56_38 = true
      ·subst c48
       have H1 : (some false) = some r := by rw [if_pos rfl] at H; exact H
       clear H
       have H := H1
       clear H1
       obtain rfl := Option.some.inj H
       go_wp2
       go_ret
       exact ⟨by first | rfl | (simp [errW_none, errW_some] <;> rfl) | (simp [*, errW_none, errW_some] <;> rfl), hx_ HB⟩
      ·replace c48 := Bool.eq_false_iff.mpr c48
       subst c48
       have H1 : (note_May.l0 kj38 a0_3 l0_5 (l0_5.length : Int) 0 a0_0 a0_1 a0_2 a0_3 a0_4 l0_5) = some r := by rw [if_neg (show ¬ (false = true) by decide)] at H; exact H
       clear H
       have H := H1
       clear H1
       have H' := am_ H
       clear H
       have hnb49 := NB311_310.out
       have hnc49 := NB310_311.out
       have hcz50_0 : wc.cell? ⟨gb311, 0, none⟩ = some (.int .u64 a0_2) := (blk_cell BK311.out 0).trans rfl
       have hcz50_1 : wc.cell? ⟨gb311, 1, none⟩ = some (.int .u64 a0_3) := (blk_cell BK311.out 1).trans rfl
       have hcz50_2 : wc.cell? ⟨gb311, 2, none⟩ = some (.string a0_4) := (blk_cell BK311.out 2).trans rfl
       have hcz50_3 : wc.cell? ⟨gb311, 3, none⟩ = some (.slice A0_5 l0_5.length c0_5) := (blk_cell BK311.out 3).trans rfl
       have hfz50_0 := blk_frozen BK311.out 0
       have hfz50_1 := blk_frozen BK311.out 1
       have hfz50_2 := blk_frozen BK311.out 2
       have hfz50_3 := blk_frozen BK311.out 3
       go_wp2
       go_loopg [4, 62] kj38 (fun kq v4 v62 w' => ∃ (x4_3 : Int) (x62_3 : Int), v4 = .int .u64 x4_3 ∧ v62 = .int .i64 x62_3 ∧ Aside0 (note_May.l0 kq x4_3 l0_5 (l0_5.length : Int) x62_3 a0_0 a0_1 a0_2 a0_3 a0_4 l0_5 = some r) ∧ Aside0 (kq ≤ kj38) ∧ Aside0 (w'.heap[gb310]? = some (.cells #[.int .u64 a0_0, .int .u64 a0_1, .int .u64 a0_2, .int .u64 a0_3, .string a0_4, (.slice A0_5 l0_5.length c0_5)] 30 (0, 0))) ∧ Aside0 (w'.heap[gb311]? = some (.cells #[.int .u64 a0_2, .int .u64 a0_3, .string a0_4, (.slice A0_5 l0_5.length c0_5)] 28 (0, 0))) ∧ Aside0 (Below w.heap.size w w'))
       case atStart => exact ⟨(a0_3), (0), (by first | rfl | (simp; done) | (simp [*]; done)), (by first | rfl | (simp; done) | (simp [*]; done)), H', ⟨Nat.le_refl _⟩, ⟨bx_ BK310⟩, ⟨bx_ BK311⟩, ⟨hx_ HB⟩⟩
       case round =>
        clear H'
        try clear c1
        try clear c2
        try clear p2
        try clear c3
        try clear c4
        try clear c6
        try clear c9
        try clear c9b0
        try clear c10
        try clear c12
        try clear c12b0
        try clear c13
        try clear c16
        try clear c16b0
        try clear c16b1
        try clear c17
        try clear c21
        try clear c21b0
        try clear c22
        try clear c26
        try clear c26b0
        try clear c26b1
        try clear c27
        try clear c29
        try clear c32
        try clear c38
        try clear c40
        try clear c40b0
        try clear c40b1
        try clear c41
        try clear c41b0
        try clear c41b1
        try clear c42
        try clear c44
        try clear c46
        try clear c48
        try clear c49
        try clear hcz11_0
        try clear hcz11_1
        try clear hcz11_2
        try clear hcz11_3
        try clear hcz11_4
        try clear hcz11_5
        try clear hcz14_0
        try clear hcz14_1
        try clear hcz14_2
        try clear hcz14_3
        try clear hcz14_4
        try clear hcz14_5
        try clear hcz15_0
        try clear hcz15_1
        try clear hcz15_2
        try clear hcz15_3
        try clear hcz18_0
        try clear hcz18_1
        try clear hcz18_2
        try clear hcz18_3
        try clear hcz18_4
        try clear hcz18_5
        try clear hcz19_0
        try clear hcz19_1
        try clear hcz19_2
        try clear hcz19_3
        try clear hcz23_0
        try clear hcz23_1
        try clear hcz23_2
        try clear hcz23_3
        try clear hcz23_4
        try clear hcz23_5
        try clear hcz24_0
        try clear hcz24_1
        try clear hcz24_2
        try clear hcz24_3
        try clear hcz28_0
        try clear hcz28_1
        try clear hcz28_2
        try clear hcz28_3
        try clear hcz28_4
        try clear hcz28_5
        try clear hcz29_0
        try clear hcz29_1
        try clear hcz29_2
        try clear hcz29_3
        try clear hcz31_0
        try clear hcz31_1
        try clear hcz31_2
        try clear hcz31_3
        try clear hcz33_0
        try clear hcz33_1
        try clear hcz33_2
        try clear hcz33_3
        try clear hcz33_4
        try clear hcz33_5
        try clear hcz34_0
        try clear hcz34_1
        try clear hcz34_2
        try clear hcz34_3
        try clear hcz36_0
        try clear hcz36_1
        try clear hcz36_2
        try clear hcz36_3
        try clear hcz37_0
        try clear hcz37_1
        try clear hcz37_2
        try clear hcz37_3
        try clear hcz37_4
        try clear hcz37_5
        try clear hcz43_0
        try clear hcz43_1
        try clear hcz43_2
        try clear hcz43_3
        try clear hcz45_0
        try clear hcz45_1
        try clear hcz45_2
        try clear hcz45_3
        try clear hcz47_0
        try clear hcz47_1
        try clear hcz47_2
        try clear hcz47_3
        try clear hcz4_0
        try clear hcz4_1
        try clear hcz4_2
        try clear hcz4_3
        try clear hcz4_4
        try clear hcz4_5
        try clear hcz50_0
        try clear hcz50_1
        try clear hcz50_2
        try clear hcz50_3
        try clear hcz7_0
        try clear hcz7_1
        try clear hcz7_2
        try clear hcz7_3
        try clear hfz11_0
        try clear hfz11_1
        try clear hfz11_2
        try clear hfz11_3
        try clear hfz11_4
        try clear hfz11_5
        try clear hfz14_0
        try clear hfz14_1
        try clear hfz14_2
        try clear hfz14_3
        try clear hfz14_4
        try clear hfz14_5
        try clear hfz15_0
        try clear hfz15_1
        try clear hfz15_2
        try clear hfz15_3
        try clear hfz18_0
        try clear hfz18_1
        try clear hfz18_2
        try clear hfz18_3
        try clear hfz18_4
        try clear hfz18_5
        try clear hfz19_0
        try clear hfz19_1
        try clear hfz19_2
        try clear hfz19_3
        try clear hfz23_0
        try clear hfz23_1
        try clear hfz23_2
        try clear hfz23_3
        try clear hfz23_4
        try clear hfz23_5
        try clear hfz24_0
        try clear hfz24_1
        try clear hfz24_2
        try clear hfz24_3
        try clear hfz28_0
        try clear hfz28_1
        try clear hfz28_2
        try clear hfz28_3
        try clear hfz28_4
        try clear hfz28_5
        try clear hfz29_0
        try clear hfz29_1
        try clear hfz29_2
        try clear hfz29_3
        try clear hfz31_0
        try clear hfz31_1
        try clear hfz31_2
        try clear hfz31_3
        try clear hfz33_0
        try clear hfz33_1
        try clear hfz33_2
        try clear hfz33_3
        try clear hfz33_4
        try clear hfz33_5
        try clear hfz34_0
        try clear hfz34_1
        try clear hfz34_2
        try clear hfz34_3
        try clear hfz36_0
        try clear hfz36_1
        try clear hfz36_2
        try clear hfz36_3
        try clear hfz37_0
        try clear hfz37_1
        try clear hfz37_2
        try clear hfz37_3
        try clear hfz37_4
        try clear hfz37_5
        try clear hfz43_0
        try clear hfz43_1
        try clear hfz43_2
        try clear hfz43_3
        try clear hfz45_0
        try clear hfz45_1
        try clear hfz45_2
        try clear hfz45_3
        try clear hfz47_0
        try clear hfz47_1
        try clear hfz47_2
        try clear hfz47_3
        try clear hfz4_0
        try clear hfz4_1
        try clear hfz4_2
        try clear hfz4_3
        try clear hfz4_4
        try clear hfz4_5
        try clear hfz50_0
        try clear hfz50_1
        try clear hfz50_2
        try clear hfz50_3
        try clear hfz7_0
        try clear hfz7_1
        try clear hfz7_2
        try clear hfz7_3
        try clear p2
        obtain ⟨x4_3, x62_3, rfl, rfl, HA, HK3, BK310, BK311, HB⟩ := hrel
        cases gk with
        | zero => exact absurd HA.out (by simp [note_May.l0])
        | succ k3 =>
         have H := HA.out
         clear HA
         simp only [note_May.l0] at H
         by_cases c51 : x62_3 < (l0_5.length : Int)
         ·rw [if_pos c51] at H
          have c51b0 : decide (x62_3 < (l0_5.length : Int)) = true := decide_eq_true c51
          clear c51
          by_cases c52 : 0 ≤ x62_3
          ·rw [if_pos c52] at H
           have c52b0 : decide (0 ≤ x62_3) = true := decide_eq_true c52
           clear c52
           by_cases c53 : x62_3 < (l0_5.length : Int)
           ·rw [if_pos c53] at H
            have c53b0 : decide (x62_3 < (l0_5.length : Int)) = true := decide_eq_true c53
            clear c53
            by_cases c54 : ((rd_T75 l0_5 x62_3).f0) < x4_3
            ·rw [if_pos c54] at H
             have c54b0 : decide (((rd_T75 l0_5 x62_3).f0) < x4_3) = true := decide_eq_true c54
             clear c54
             obtain rfl := Option.some.inj H
             have p313 : 0 ≤ (x62_3 : Int) := of_decide_eq_true (by first | (with_reducible assumption) | assumption)
             have q313 : x62_3 < (l0_5.length : Int) := of_decide_eq_true (by first | (with_reducible assumption) | assumption)
             obtain ⟨ad313, e313, hx313_0, hx313_1⟩ := at_T75 HR0_5.out x62_3 p313 q313
             cases e313
             replace hx313_0 := (HB.out.cell (World.block_lt_of_cell? w _ hx313_0)).trans hx313_0
             replace hx313_1 := (HB.out.cell (World.block_lt_of_cell? w _ hx313_1)).trans hx313_1
             replace p313 := eq_true p313
             replace q313 := eq_true q313
             go_wp2_with (first | ((with_reducible refine gate_dst (N := 6) rfl ?_); (try (refine gate_guard (by rfl) ?_; dsimp only)); refine box_event ?hg (N := 6) ?hd (cs := #[.int .u64 0, .string (⟨#[]⟩ : ByteArray)]) (t := 75) ?hr ?_; (case hd => rfl); (case hg => rfl); (case hr => first | (go_simp; done) | (go_simp; rfl)); intro gb314 hg w55 hbox hb; have n0_ := am_ (blk_below (g := gb310) (o := .cells #[.int .u64 a0_0, .int .u64 a0_1, .int .u64 a0_2, .int .u64 a0_3, .string a0_4, .slice (some ad313) l0_5.length c0_5] 30 (0, 0)) (bx_ BK310) hb); have n1_ := am_ (blk_below (g := gb311) (o := .cells #[.int .u64 a0_2, .int .u64 a0_3, .string a0_4, .slice (some ad313) l0_5.length c0_5] 28 (0, 0)) (bx_ BK311) hb); have n2_ := am_ (below_step (by repeat (first | (with_reducible first | exact HB.out | apply below_alloc | apply pw_below_drewN | apply below_drew1 | refine below_set ?_ GE310.out | refine below_set ?_ GE311.out) | exact HB.out | exact Below.refl _ _)) hb); have n3_ := am_ (hbox); have n4_ := am_ ((by rw [hg]; exact (below_size (hx_ HB)) : w.heap.size ≤ gb314)); have n5_ := am_ ((by rw [hg]; exact (below_size (hx_ HB)) : w.heap.size ≤ gb314)); have n6_ := am_ ((by rw [hg]; exact Nat.ne_of_lt (blk_lt (g := gb310) (o := .cells #[.int .u64 a0_0, .int .u64 a0_1, .int .u64 a0_2, .int .u64 a0_3, .string a0_4, .slice (some ad313) l0_5.length c0_5] 30 (0, 0)) (bx_ BK310)) : gb310 ≠ gb314)); have n7_ := am_ ((by rw [hg]; exact Nat.ne_of_gt (blk_lt (g := gb310) (o := .cells #[.int .u64 a0_0, .int .u64 a0_1, .int .u64 a0_2, .int .u64 a0_3, .string a0_4, .slice (some ad313) l0_5.length c0_5] 30 (0, 0)) (bx_ BK310)) : gb314 ≠ gb310)); have n8_ := am_ ((by rw [hg]; exact Nat.ne_of_lt (blk_lt (g := gb311) (o := .cells #[.int .u64 a0_2, .int .u64 a0_3, .string a0_4, .slice (some ad313) l0_5.length c0_5] 28 (0, 0)) (bx_ BK311)) : gb311 ≠ gb314)); have n9_ := am_ ((by rw [hg]; exact Nat.ne_of_gt (blk_lt (g := gb311) (o := .cells #[.int .u64 a0_2, .int .u64 a0_3, .string a0_4, .slice (some ad313) l0_5.length c0_5] 28 (0, 0)) (bx_ BK311)) : gb314 ≠ gb311)); clear BK310; clear BK311; clear HB; have BK310 := n0_; have BK311 := n1_; have HB := n2_; have BK314 := n3_; have GW314 := n4_; have GE314 := n5_; have NB310_314 := n6_; have NB314_310 := n7_; have NB311_314 := n8_; have NB314_311 := n9_; clear n0_ n1_ n2_ n3_ n4_ n5_ n6_ n7_ n8_ n9_; clear hb hbox hg; have hnb56 := NB314_310.out; have hnc56 := NB310_314.out; have hnb57 := NB314_311.out; have hnc57 := NB311_314.out; have hcz58_0 : w55.cell? ⟨gb314, 0, none⟩ = some (.int .u64 0) := (blk_cell BK314.out 0).trans rfl; have hcz58_1 : w55.cell? ⟨gb314, 1, none⟩ = some (.string (⟨#[]⟩ : ByteArray)) := (blk_cell BK314.out 1).trans rfl; have hfz58_0 := blk_frozen BK314.out 0; have hfz58_1 := blk_frozen BK314.out 1))
             go_ret
             exact ⟨by first | rfl | (simp [errW_none, errW_some] <;> rfl) | (simp [*, errW_none, errW_some] <;> rfl), hx_ HB⟩
            ·rw [if_neg c54] at H
             have c54b0 : decide (((rd_T75 l0_5 x62_3).f0) < x4_3) = false := decide_eq_false c54
             clear c54
             by_cases c59 : ((rd_T75 l0_5 x62_3).f0) > a0_0
             ·rw [if_pos c59] at H
              have c59b0 : decide (a0_0 < ((rd_T75 l0_5 x62_3).f0)) = true := decide_eq_true c59
              clear c59
              obtain rfl := Option.some.inj H
              have p313 : 0 ≤ (x62_3 : Int) := of_decide_eq_true (by first | (with_reducible assumption) | assumption)
              have q313 : x62_3 < (l0_5.length : Int) := of_decide_eq_true (by first | (with_reducible assumption) | assumption)
              obtain ⟨ad313, e313, hx313_0, hx313_1⟩ := at_T75 HR0_5.out x62_3 p313 q313
              cases e313
              replace hx313_0 := (HB.out.cell (World.block_lt_of_cell? w _ hx313_0)).trans hx313_0
              replace hx313_1 := (HB.out.cell (World.block_lt_of_cell? w _ hx313_1)).trans hx313_1
              replace p313 := eq_true p313
              replace q313 := eq_true q313
              go_wp2_with (first | ((with_reducible refine gate_dst (N := 6) rfl ?_); (try (refine gate_guard (by rfl) ?_; dsimp only)); refine box_event ?hg (N := 6) ?hd (cs := #[.int .u64 0, .string (⟨#[]⟩ : ByteArray)]) (t := 75) ?hr ?_; (case hd => rfl); (case hg => rfl); (case hr => first | (go_simp; done) | (go_simp; rfl)); intro gb314 hg w60 hbox hb; have n0_ := am_ (blk_below (g := gb310) (o := .cells #[.int .u64 a0_0, .int .u64 a0_1, .int .u64 a0_2, .int .u64 a0_3, .string a0_4, .slice (some ad313) l0_5.length c0_5] 30 (0, 0)) (bx_ BK310) hb); have n1_ := am_ (blk_below (g := gb311) (o := .cells #[.int .u64 a0_2, .int .u64 a0_3, .string a0_4, .slice (some ad313) l0_5.length c0_5] 28 (0, 0)) (bx_ BK311) hb); have n2_ := am_ (below_step (by repeat (first | (with_reducible first | exact HB.out | apply below_alloc | apply pw_below_drewN | apply below_drew1 | refine below_set ?_ GE310.out | refine below_set ?_ GE311.out) | exact HB.out | exact Below.refl _ _)) hb); have n3_ := am_ (hbox); have n4_ := am_ ((by rw [hg]; exact (below_size (hx_ HB)) : w.heap.size ≤ gb314)); have n5_ := am_ ((by rw [hg]; exact (below_size (hx_ HB)) : w.heap.size ≤ gb314)); have n6_ := am_ ((by rw [hg]; exact Nat.ne_of_lt (blk_lt (g := gb310) (o := .cells #[.int .u64 a0_0, .int .u64 a0_1, .int .u64 a0_2, .int .u64 a0_3, .string a0_4, .slice (some ad313) l0_5.length c0_5] 30 (0, 0)) (bx_ BK310)) : gb310 ≠ gb314)); have n7_ := am_ ((by rw [hg]; exact Nat.ne_of_gt (blk_lt (g := gb310) (o := .cells #[.int .u64 a0_0, .int .u64 a0_1, .int .u64 a0_2, .int .u64 a0_3, .string a0_4, .slice (some ad313) l0_5.length c0_5] 30 (0, 0)) (bx_ BK310)) : gb314 ≠ gb310)); have n8_ := am_ ((by rw [hg]; exact Nat.ne_of_lt (blk_lt (g := gb311) (o := .cells #[.int .u64 a0_2, .int .u64 a0_3, .string a0_4, .slice (some ad313) l0_5.length c0_5] 28 (0, 0)) (bx_ BK311)) : gb311 ≠ gb314)); have n9_ := am_ ((by rw [hg]; exact Nat.ne_of_gt (blk_lt (g := gb311) (o := .cells #[.int .u64 a0_2, .int .u64 a0_3, .string a0_4, .slice (some ad313) l0_5.length c0_5] 28 (0, 0)) (bx_ BK311)) : gb314 ≠ gb311)); clear BK310; clear BK311; clear HB; have BK310 := n0_; have BK311 := n1_; have HB := n2_; have BK314 := n3_; have GW314 := n4_; have GE314 := n5_; have NB310_314 := n6_; have NB314_310 := n7_; have NB311_314 := n8_; have NB314_311 := n9_; clear n0_ n1_ n2_ n3_ n4_ n5_ n6_ n7_ n8_ n9_; clear hb hbox hg; have hnb61 := NB314_310.out; have hnc61 := NB310_314.out; have hnb62 := NB314_311.out; have hnc62 := NB311_314.out; have hcz63_0 : w60.cell? ⟨gb314, 0, none⟩ = some (.int .u64 0) := (blk_cell BK314.out 0).trans rfl; have hcz63_1 : w60.cell? ⟨gb314, 1, none⟩ = some (.string (⟨#[]⟩ : ByteArray)) := (blk_cell BK314.out 1).trans rfl; have hfz63_0 := blk_frozen BK314.out 0; have hfz63_1 := blk_frozen BK314.out 1; have hnb64 := NB310_311.out; have hnc64 := NB311_310.out; have hcz65_0 : w60.cell? ⟨gb310, 0, none⟩ = some (.int .u64 a0_0) := (blk_cell BK310.out 0).trans rfl; have hcz65_1 : w60.cell? ⟨gb310, 1, none⟩ = some (.int .u64 a0_1) := (blk_cell BK310.out 1).trans rfl; have hcz65_2 : w60.cell? ⟨gb310, 2, none⟩ = some (.int .u64 a0_2) := (blk_cell BK310.out 2).trans rfl; have hcz65_3 : w60.cell? ⟨gb310, 3, none⟩ = some (.int .u64 a0_3) := (blk_cell BK310.out 3).trans rfl; have hcz65_4 : w60.cell? ⟨gb310, 4, none⟩ = some (.string a0_4) := (blk_cell BK310.out 4).trans rfl; have hcz65_5 : w60.cell? ⟨gb310, 5, none⟩ = some (.slice (some ad313) l0_5.length c0_5) := (blk_cell BK310.out 5).trans rfl; have hfz65_0 := blk_frozen BK310.out 0; have hfz65_1 := blk_frozen BK310.out 1; have hfz65_2 := blk_frozen BK310.out 2; have hfz65_3 := blk_frozen BK310.out 3; have hfz65_4 := blk_frozen BK310.out 4; have hfz65_5 := blk_frozen BK310.out 5))
              go_ret
              exact ⟨by first | rfl | (simp [errW_none, errW_some] <;> rfl) | (simp [*, errW_none, errW_some] <;> rfl), hx_ HB⟩
             ·rw [if_neg c59] at H
              have c59b0 : decide (a0_0 < ((rd_T75 l0_5 x62_3).f0)) = false := decide_eq_false c59
              clear c59
              by_cases c66 : (((rd_T75 l0_5 x62_3).f1).size : Int) > 4096
              ·rw [if_pos c66] at H
               have c66b0 : decide (4096 < (((rd_T75 l0_5 x62_3).f1).size : Int)) = true := decide_eq_true c66
               have c66b1 : decide (4096 < ((rd_T75 l0_5 x62_3).f1).size) = true := decide_eq_true (by omega)
               clear c66
               obtain rfl := Option.some.inj H
               have p313 : 0 ≤ (x62_3 : Int) := of_decide_eq_true (by first | (with_reducible assumption) | assumption)
               have q313 : x62_3 < (l0_5.length : Int) := of_decide_eq_true (by first | (with_reducible assumption) | assumption)
               obtain ⟨ad313, e313, hx313_0, hx313_1⟩ := at_T75 HR0_5.out x62_3 p313 q313
               cases e313
               replace hx313_0 := (HB.out.cell (World.block_lt_of_cell? w _ hx313_0)).trans hx313_0
               replace hx313_1 := (HB.out.cell (World.block_lt_of_cell? w _ hx313_1)).trans hx313_1
               replace p313 := eq_true p313
               replace q313 := eq_true q313
               go_wp2_with (first | ((with_reducible refine gate_dst (N := 6) rfl ?_); (try (refine gate_guard (by rfl) ?_; dsimp only)); refine box_event ?hg (N := 6) ?hd (cs := #[.int .u64 0, .string (⟨#[]⟩ : ByteArray)]) (t := 75) ?hr ?_; (case hd => rfl); (case hg => rfl); (case hr => first | (go_simp; done) | (go_simp; rfl)); intro gb314 hg w67 hbox hb; have n0_ := am_ (blk_below (g := gb310) (o := .cells #[.int .u64 a0_0, .int .u64 a0_1, .int .u64 a0_2, .int .u64 a0_3, .string a0_4, .slice (some ad313) l0_5.length c0_5] 30 (0, 0)) (bx_ BK310) hb); have n1_ := am_ (blk_below (g := gb311) (o := .cells #[.int .u64 a0_2, .int .u64 a0_3, .string a0_4, .slice (some ad313) l0_5.length c0_5] 28 (0, 0)) (bx_ BK311) hb); have n2_ := am_ (below_step (by repeat (first | (with_reducible first | exact HB.out | apply below_alloc | apply pw_below_drewN | apply below_drew1 | refine below_set ?_ GE310.out | refine below_set ?_ GE311.out) | exact HB.out | exact Below.refl _ _)) hb); have n3_ := am_ (hbox); have n4_ := am_ ((by rw [hg]; exact (below_size (hx_ HB)) : w.heap.size ≤ gb314)); have n5_ := am_ ((by rw [hg]; exact (below_size (hx_ HB)) : w.heap.size ≤ gb314)); have n6_ := am_ ((by rw [hg]; exact Nat.ne_of_lt (blk_lt (g := gb310) (o := .cells #[.int .u64 a0_0, .int .u64 a0_1, .int .u64 a0_2, .int .u64 a0_3, .string a0_4, .slice (some ad313) l0_5.length c0_5] 30 (0, 0)) (bx_ BK310)) : gb310 ≠ gb314)); have n7_ := am_ ((by rw [hg]; exact Nat.ne_of_gt (blk_lt (g := gb310) (o := .cells #[.int .u64 a0_0, .int .u64 a0_1, .int .u64 a0_2, .int .u64 a0_3, .string a0_4, .slice (some ad313) l0_5.length c0_5] 30 (0, 0)) (bx_ BK310)) : gb314 ≠ gb310)); have n8_ := am_ ((by rw [hg]; exact Nat.ne_of_lt (blk_lt (g := gb311) (o := .cells #[.int .u64 a0_2, .int .u64 a0_3, .string a0_4, .slice (some ad313) l0_5.length c0_5] 28 (0, 0)) (bx_ BK311)) : gb311 ≠ gb314)); have n9_ := am_ ((by rw [hg]; exact Nat.ne_of_gt (blk_lt (g := gb311) (o := .cells #[.int .u64 a0_2, .int .u64 a0_3, .string a0_4, .slice (some ad313) l0_5.length c0_5] 28 (0, 0)) (bx_ BK311)) : gb314 ≠ gb311)); clear BK310; clear BK311; clear HB; have BK310 := n0_; have BK311 := n1_; have HB := n2_; have BK314 := n3_; have GW314 := n4_; have GE314 := n5_; have NB310_314 := n6_; have NB314_310 := n7_; have NB311_314 := n8_; have NB314_311 := n9_; clear n0_ n1_ n2_ n3_ n4_ n5_ n6_ n7_ n8_ n9_; clear hb hbox hg; have hnb68 := NB314_310.out; have hnc68 := NB310_314.out; have hnb69 := NB314_311.out; have hnc69 := NB311_314.out; have hcz70_0 : w67.cell? ⟨gb314, 0, none⟩ = some (.int .u64 0) := (blk_cell BK314.out 0).trans rfl; have hcz70_1 : w67.cell? ⟨gb314, 1, none⟩ = some (.string (⟨#[]⟩ : ByteArray)) := (blk_cell BK314.out 1).trans rfl; have hfz70_0 := blk_frozen BK314.out 0; have hfz70_1 := blk_frozen BK314.out 1; have hnb71 := NB310_311.out; have hnc71 := NB311_310.out; have hcz72_0 : w67.cell? ⟨gb310, 0, none⟩ = some (.int .u64 a0_0) := (blk_cell BK310.out 0).trans rfl; have hcz72_1 : w67.cell? ⟨gb310, 1, none⟩ = some (.int .u64 a0_1) := (blk_cell BK310.out 1).trans rfl; have hcz72_2 : w67.cell? ⟨gb310, 2, none⟩ = some (.int .u64 a0_2) := (blk_cell BK310.out 2).trans rfl; have hcz72_3 : w67.cell? ⟨gb310, 3, none⟩ = some (.int .u64 a0_3) := (blk_cell BK310.out 3).trans rfl; have hcz72_4 : w67.cell? ⟨gb310, 4, none⟩ = some (.string a0_4) := (blk_cell BK310.out 4).trans rfl; have hcz72_5 : w67.cell? ⟨gb310, 5, none⟩ = some (.slice (some ad313) l0_5.length c0_5) := (blk_cell BK310.out 5).trans rfl; have hfz72_0 := blk_frozen BK310.out 0; have hfz72_1 := blk_frozen BK310.out 1; have hfz72_2 := blk_frozen BK310.out 2; have hfz72_3 := blk_frozen BK310.out 3; have hfz72_4 := blk_frozen BK310.out 4; have hfz72_5 := blk_frozen BK310.out 5))
               go_ret
               exact ⟨by first | rfl | (simp [errW_none, errW_some] <;> rfl) | (simp [*, errW_none, errW_some] <;> rfl), hx_ HB⟩
              ·rw [if_neg c66] at H
               have c66b0 : decide (4096 < (((rd_T75 l0_5 x62_3).f1).size : Int)) = false := decide_eq_false c66
               have c66b1 : decide (4096 < ((rd_T75 l0_5 x62_3).f1).size) = false := decide_eq_false (by omega)
               clear c66
               have H' := am_ H
               clear H
               have p313 : 0 ≤ (x62_3 : Int) := of_decide_eq_true (by first | (with_reducible assumption) | assumption)
               have q313 : x62_3 < (l0_5.length : Int) := of_decide_eq_true (by first | (with_reducible assumption) | assumption)
               obtain ⟨ad313, e313, hx313_0, hx313_1⟩ := at_T75 HR0_5.out x62_3 p313 q313
               cases e313
               replace hx313_0 := (HB.out.cell (World.block_lt_of_cell? w _ hx313_0)).trans hx313_0
               replace hx313_1 := (HB.out.cell (World.block_lt_of_cell? w _ hx313_1)).trans hx313_1
               replace p313 := eq_true p313
               replace q313 := eq_true q313
               go_wp2_with (first | ((with_reducible refine gate_dst (N := 6) rfl ?_); (try (refine gate_guard (by rfl) ?_; dsimp only)); refine box_event ?hg (N := 6) ?hd (cs := #[.int .u64 0, .string (⟨#[]⟩ : ByteArray)]) (t := 75) ?hr ?_; (case hd => rfl); (case hg => rfl); (case hr => first | (go_simp; done) | (go_simp; rfl)); intro gb314 hg w73 hbox hb; have n0_ := am_ (blk_below (g := gb310) (o := .cells #[.int .u64 a0_0, .int .u64 a0_1, .int .u64 a0_2, .int .u64 a0_3, .string a0_4, .slice (some ad313) l0_5.length c0_5] 30 (0, 0)) (bx_ BK310) hb); have n1_ := am_ (blk_below (g := gb311) (o := .cells #[.int .u64 a0_2, .int .u64 a0_3, .string a0_4, .slice (some ad313) l0_5.length c0_5] 28 (0, 0)) (bx_ BK311) hb); have n2_ := am_ (below_step (by repeat (first | (with_reducible first | exact HB.out | apply below_alloc | apply pw_below_drewN | apply below_drew1 | refine below_set ?_ GE310.out | refine below_set ?_ GE311.out) | exact HB.out | exact Below.refl _ _)) hb); have n3_ := am_ (hbox); have n4_ := am_ ((by rw [hg]; exact (below_size (hx_ HB)) : w.heap.size ≤ gb314)); have n5_ := am_ ((by rw [hg]; exact (below_size (hx_ HB)) : w.heap.size ≤ gb314)); have n6_ := am_ ((by rw [hg]; exact Nat.ne_of_lt (blk_lt (g := gb310) (o := .cells #[.int .u64 a0_0, .int .u64 a0_1, .int .u64 a0_2, .int .u64 a0_3, .string a0_4, .slice (some ad313) l0_5.length c0_5] 30 (0, 0)) (bx_ BK310)) : gb310 ≠ gb314)); have n7_ := am_ ((by rw [hg]; exact Nat.ne_of_gt (blk_lt (g := gb310) (o := .cells #[.int .u64 a0_0, .int .u64 a0_1, .int .u64 a0_2, .int .u64 a0_3, .string a0_4, .slice (some ad313) l0_5.length c0_5] 30 (0, 0)) (bx_ BK310)) : gb314 ≠ gb310)); have n8_ := am_ ((by rw [hg]; exact Nat.ne_of_lt (blk_lt (g := gb311) (o := .cells #[.int .u64 a0_2, .int .u64 a0_3, .string a0_4, .slice (some ad313) l0_5.length c0_5] 28 (0, 0)) (bx_ BK311)) : gb311 ≠ gb314)); have n9_ := am_ ((by rw [hg]; exact Nat.ne_of_gt (blk_lt (g := gb311) (o := .cells #[.int .u64 a0_2, .int .u64 a0_3, .string a0_4, .slice (some ad313) l0_5.length c0_5] 28 (0, 0)) (bx_ BK311)) : gb314 ≠ gb311)); clear BK310; clear BK311; clear HB; have BK310 := n0_; have BK311 := n1_; have HB := n2_; have BK314 := n3_; have GW314 := n4_; have GE314 := n5_; have NB310_314 := n6_; have NB314_310 := n7_; have NB311_314 := n8_; have NB314_311 := n9_; clear n0_ n1_ n2_ n3_ n4_ n5_ n6_ n7_ n8_ n9_; clear hb hbox hg; have hnb74 := NB314_310.out; have hnc74 := NB310_314.out; have hnb75 := NB314_311.out; have hnc75 := NB311_314.out; have hcz76_0 : w73.cell? ⟨gb314, 0, none⟩ = some (.int .u64 0) := (blk_cell BK314.out 0).trans rfl; have hcz76_1 : w73.cell? ⟨gb314, 1, none⟩ = some (.string (⟨#[]⟩ : ByteArray)) := (blk_cell BK314.out 1).trans rfl; have hfz76_0 := blk_frozen BK314.out 0; have hfz76_1 := blk_frozen BK314.out 1; have hnb77 := NB310_311.out; have hnc77 := NB311_310.out; have hcz78_0 : w73.cell? ⟨gb310, 0, none⟩ = some (.int .u64 a0_0) := (blk_cell BK310.out 0).trans rfl; have hcz78_1 : w73.cell? ⟨gb310, 1, none⟩ = some (.int .u64 a0_1) := (blk_cell BK310.out 1).trans rfl; have hcz78_2 : w73.cell? ⟨gb310, 2, none⟩ = some (.int .u64 a0_2) := (blk_cell BK310.out 2).trans rfl; have hcz78_3 : w73.cell? ⟨gb310, 3, none⟩ = some (.int .u64 a0_3) := (blk_cell BK310.out 3).trans rfl; have hcz78_4 : w73.cell? ⟨gb310, 4, none⟩ = some (.string a0_4) := (blk_cell BK310.out 4).trans rfl; have hcz78_5 : w73.cell? ⟨gb310, 5, none⟩ = some (.slice (some ad313) l0_5.length c0_5) := (blk_cell BK310.out 5).trans rfl; have hfz78_0 := blk_frozen BK310.out 0; have hfz78_1 := blk_frozen BK310.out 1; have hfz78_2 := blk_frozen BK310.out 2; have hfz78_3 := blk_frozen BK310.out 3; have hfz78_4 := blk_frozen BK310.out 4; have hfz78_5 := blk_frozen BK310.out 5))
               go_roundg k3
               case measure => have := HJ1.out; have := HJ38.out; have := HK3.out; omega
               case rel => exact ⟨((rd_T75 l0_5 x62_3).f0), (wrap64 (x62_3 + 1)), (by first | rfl | (simp; done) | (simp [*]; done)), (by first | rfl | (simp; done) | (simp [*]; done)), H', ⟨by have := HJ1.out; have := HJ38.out; have := HK3.out; omega⟩, ⟨by (with_reducible repeat (first | refine blk_drewN ?_ _ | refine blk_drew ?_ | refine blk_alloc ?_ _)); refine blk_far ?_ NB310_314.out _; (with_reducible repeat (first | refine blk_drewN ?_ _ | refine blk_drew ?_ | refine blk_alloc ?_ _)); refine blk_far ?_ NB310_314.out _; (with_reducible repeat (first | refine blk_drewN ?_ _ | refine blk_drew ?_ | refine blk_alloc ?_ _)); exact BK310.out⟩, ⟨by (with_reducible repeat (first | refine blk_drewN ?_ _ | refine blk_drew ?_ | refine blk_alloc ?_ _)); refine blk_far ?_ NB311_314.out _; (with_reducible repeat (first | refine blk_drewN ?_ _ | refine blk_drew ?_ | refine blk_alloc ?_ _)); refine blk_far ?_ NB311_314.out _; (with_reducible repeat (first | refine blk_drewN ?_ _ | refine blk_drew ?_ | refine blk_alloc ?_ _)); exact BK311.out⟩, ⟨hx_ HB⟩⟩
           ·rw [if_neg c53] at H
            exact absurd H (by simp)
          ·rw [if_neg c52] at H
           exact absurd H (by simp)
         ·rw [if_neg c51] at H
          have c51b0 : decide (x62_3 < (l0_5.length : Int)) = false := decide_eq_false c51
          clear c51
          obtain rfl := Option.some.inj H
          go_wp2
          go_ret
          exact ⟨by first | rfl | (simp [errW_none, errW_some] <;> rfl) | (simp [*, errW_none, errW_some] <;> rfl), hx_ HB⟩
end Go.Proofs.Ytfjhlcbpogihmaa.Pr
