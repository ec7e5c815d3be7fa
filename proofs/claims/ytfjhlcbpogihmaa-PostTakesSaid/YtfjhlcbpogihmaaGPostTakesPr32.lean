/- What the program's functions compute, and that they compute it: printed out of the translation by a program of this session's (px.py, over the kit's printer). Conditions: none. -/
import Derived.Test.YtfjhlcbpogihmaaKPostTakes1
namespace Go.Proofs.Ytfjhlcbpogihmaa.Pr
open Go.RowKit Go.Proofs.YtfjhlcbpogihmaaW.PrintWords Go.Proofs.YtfjhlcbpogihmaaW.PrintLast Go.Proofs.YtfjhlcbpogihmaaW.PrintMore
attribute [local go_sem] max2_int max_four
set_option linter.unusedVariables false
set_option linter.unusedSimpArgs false
/-! ### ferruleref17_May: function 34 -/
mutual
def ferruleref17_May.j0 : Nat → Bool → Int → Int → Int → Int → Int → Int → Int → Bool → List (S75) → ByteArray → Option (Bool)
  | 0, _, _, _, _, _, _, _, _, _, _, _ => none
  | k + 1, x63, x399000, x399001, x399002, x399003, x399004, x399005, x399006, x399007, x399008, x399009 => if x63 = true then (some false) else (ferruleref17_May.l0 k 0 x399000 x399001 x399002 x399003 x399004 x399005 x399006 x399007 x399008 x399009)
def ferruleref17_May.l0 : Nat → Int → Int → Int → Int → Int → Int → Int → Int → Bool → List (S75) → ByteArray → Option (Bool)
  | 0, _, _, _, _, _, _, _, _, _, _, _ => none
  | k + 1, x3, x399000, x399001, x399002, x399003, x399004, x399005, x399006, x399007, x399008, x399009 => if x3 < (x399008.length : Int) then (if 0 ≤ x3 then (if ((rd_T75 x399008 x3).f0) > 4611686018427387903 then (some false) else (if (((rd_T75 x399008 x3).f1).size : Int) > 4096 then (some false) else (ferruleref17_May.l0 k (wrap64 (x3 + 1)) x399000 x399001 x399002 x399003 x399004 x399005 x399006 x399007 x399008 x399009))) else (none)) else (if x399000 = 5 then (if x399000 = 6 then (ferruleref17_May.j2 k false x399000 x399001 x399002 x399003 x399004 x399005 x399006 x399007 x399008 x399009) else (ferruleref17_May.j2 k (decide ((x399009.size : Int) > 0)) x399000 x399001 x399002 x399003 x399004 x399005 x399006 x399007 x399008 x399009)) else (if x399006 > 0 then (ferruleref17_May.j2 k true x399000 x399001 x399002 x399003 x399004 x399005 x399006 x399007 x399008 x399009) else (if (x399008.length : Int) > 0 then (ferruleref17_May.j2 k true x399000 x399001 x399002 x399003 x399004 x399005 x399006 x399007 x399008 x399009) else (if x399000 = 6 then (ferruleref17_May.j2 k false x399000 x399001 x399002 x399003 x399004 x399005 x399006 x399007 x399008 x399009) else (ferruleref17_May.j2 k (decide ((x399009.size : Int) > 0)) x399000 x399001 x399002 x399003 x399004 x399005 x399006 x399007 x399008 x399009)))))
def ferruleref17_May.j2 : Nat → Bool → Int → Int → Int → Int → Int → Int → Int → Bool → List (S75) → ByteArray → Option (Bool)
  | 0, _, _, _, _, _, _, _, _, _, _, _ => none
  | k + 1, x112, x399000, x399001, x399002, x399003, x399004, x399005, x399006, x399007, x399008, x399009 => if x112 = true then (some false) else (if x399000 = 1 then (ferruleref17_May.j3 k x399000 (x399000 == 1) x399000 x399001 x399002 x399003 x399004 x399005 x399006 x399007 x399008 x399009) else (if x399000 = 3 then (ferruleref17_May.j3 k x399000 (x399000 == 3) x399000 x399001 x399002 x399003 x399004 x399005 x399006 x399007 x399008 x399009) else (if x399000 = 5 then (ferruleref17_May.j3 k x399000 (x399000 == 5) x399000 x399001 x399002 x399003 x399004 x399005 x399006 x399007 x399008 x399009) else (ferruleref17_May.j3 k x399000 (x399000 == 6) x399000 x399001 x399002 x399003 x399004 x399005 x399006 x399007 x399008 x399009))))
def ferruleref17_May.j3 : Nat → Int → Bool → Int → Int → Int → Int → Int → Int → Int → Bool → List (S75) → ByteArray → Option (Bool)
  | 0, _, _, _, _, _, _, _, _, _, _, _, _ => none
  | k + 1, x114, x115, x399000, x399001, x399002, x399003, x399004, x399005, x399006, x399007, x399008, x399009 => if x115 = true then (some (!x399007)) else (if x114 = 2 then (if x399004 = 0 then (some (x399005 == 0)) else (some false)) else (if x114 = 4 then (if x399004 = 0 then (some (x399005 == 0)) else (some false)) else (some (x399005 == 0))))
end
def ferruleref17_May.f (k : Nat) (a0_0 : Int) (a0_1 : Int) (a0_2 : Int) (a0_3 : Int) (a0_4 : Int) (a0_5 : Int) (a0_6 : Int) (a0_7 : Bool) (l0_8 : List (S75)) (a0_9 : ByteArray) : Option (Bool) := if a0_0 < 1 then (ferruleref17_May.j0 k true a0_0 a0_1 a0_2 a0_3 a0_4 a0_5 a0_6 a0_7 l0_8 a0_9) else (if a0_0 > 7 then (ferruleref17_May.j0 k true a0_0 a0_1 a0_2 a0_3 a0_4 a0_5 a0_6 a0_7 l0_8 a0_9) else (if a0_1 < 1 then (ferruleref17_May.j0 k true a0_0 a0_1 a0_2 a0_3 a0_4 a0_5 a0_6 a0_7 l0_8 a0_9) else (if a0_1 > 63 then (ferruleref17_May.j0 k true a0_0 a0_1 a0_2 a0_3 a0_4 a0_5 a0_6 a0_7 l0_8 a0_9) else (if a0_2 < 1 then (ferruleref17_May.j0 k true a0_0 a0_1 a0_2 a0_3 a0_4 a0_5 a0_6 a0_7 l0_8 a0_9) else (if a0_2 > 63 then (ferruleref17_May.j0 k true a0_0 a0_1 a0_2 a0_3 a0_4 a0_5 a0_6 a0_7 l0_8 a0_9) else (if a0_3 > 4611686018427387903 then (ferruleref17_May.j0 k true a0_0 a0_1 a0_2 a0_3 a0_4 a0_5 a0_6 a0_7 l0_8 a0_9) else (if a0_4 > 4611686018427387903 then (ferruleref17_May.j0 k true a0_0 a0_1 a0_2 a0_3 a0_4 a0_5 a0_6 a0_7 l0_8 a0_9) else (if a0_5 > 4611686018427387903 then (ferruleref17_May.j0 k true a0_0 a0_1 a0_2 a0_3 a0_4 a0_5 a0_6 a0_7 l0_8 a0_9) else (if a0_6 > 4611686018427387903 then (ferruleref17_May.j0 k true a0_0 a0_1 a0_2 a0_3 a0_4 a0_5 a0_6 a0_7 l0_8 a0_9) else (if (l0_8.length : Int) > 8 then (ferruleref17_May.j0 k true a0_0 a0_1 a0_2 a0_3 a0_4 a0_5 a0_6 a0_7 l0_8 a0_9) else (ferruleref17_May.j0 k (decide ((a0_9.size : Int) > 4096)) a0_0 a0_1 a0_2 a0_3 a0_4 a0_5 a0_6 a0_7 l0_8 a0_9)))))))))))
namespace Sh32
theorem am_ {p : Prop} (h : p) : Aside0 p := ⟨h⟩
theorem bx_ {Q P : Prop} (b : Aside0 Q) (h : Q → P := by intro hq_; (with_reducible repeat (first | refine blk_drewN ?_ _ | refine blk_drew ?_ | refine blk_alloc ?_ _)); exact hq_) : P := h b.out
theorem hx_ {Q P : Prop} (b : Aside0 Q) (h : Q → P := by intro hq_; repeat (first | (with_reducible first | exact hq_ | apply below_alloc | apply pw_below_drewN | apply below_drew1 | refine below_set ?_ (Aside0.out (by assumption))) | exact hq_)) : P := h b.out
end Sh32
open Sh32
set_option maxHeartbeats 8000000 in
set_option maxRecDepth 100000 in
theorem ferruleref17_May.calls (k : Nat) (a0_0 : Int) (a0_1 : Int) (a0_2 : Int) (a0_3 : Int) (a0_4 : Int) (a0_5 : Int) (a0_6 : Int) (a0_7 : Bool) (A0_8 : Option Addr) (c0_8 : Nat) (l0_8 : List (S75)) (a0_9 : ByteArray) (r : Bool) (w : World) (hr0_8 : Kd.C k75 w A0_8 l0_8.length l0_8) (hc0_8 : l0_8.length ≤ c0_8) (h : ferruleref17_May.f k a0_0 a0_1 a0_2 a0_3 a0_4 a0_5 a0_6 a0_7 l0_8 a0_9 = some r) :
  Calls Try.prog 34 #[.agg #[.int .i64 a0_0, .int .u64 a0_1, .int .u64 a0_2, .int .u64 a0_3, .int .u64 a0_4, .int .u64 a0_5, .int .u64 a0_6, .bool a0_7, .slice A0_8 l0_8.length c0_8, .string a0_9]] w fun e w' => e = .returned (.bool r) ∧ Below w.heap.size w w' := by
 have hu57 := Try.underlying57
 have HR0_8 := am_ hr0_8
 have HC0_8 := am_ hc0_8
 clear hr0_8 hc0_8
 have HB := am_ (Below.refl w.heap.size w)
 have H : (if a0_0 < 1 then (ferruleref17_May.j0 k true a0_0 a0_1 a0_2 a0_3 a0_4 a0_5 a0_6 a0_7 l0_8 a0_9) else (if a0_0 > 7 then (ferruleref17_May.j0 k true a0_0 a0_1 a0_2 a0_3 a0_4 a0_5 a0_6 a0_7 l0_8 a0_9) else (if a0_1 < 1 then (ferruleref17_May.j0 k true a0_0 a0_1 a0_2 a0_3 a0_4 a0_5 a0_6 a0_7 l0_8 a0_9) else (if a0_1 > 63 then (ferruleref17_May.j0 k true a0_0 a0_1 a0_2 a0_3 a0_4 a0_5 a0_6 a0_7 l0_8 a0_9) else (if a0_2 < 1 then (ferruleref17_May.j0 k true a0_0 a0_1 a0_2 a0_3 a0_4 a0_5 a0_6 a0_7 l0_8 a0_9) else (if a0_2 > 63 then (ferruleref17_May.j0 k true a0_0 a0_1 a0_2 a0_3 a0_4 a0_5 a0_6 a0_7 l0_8 a0_9) else (if a0_3 > 4611686018427387903 then (ferruleref17_May.j0 k true a0_0 a0_1 a0_2 a0_3 a0_4 a0_5 a0_6 a0_7 l0_8 a0_9) else (if a0_4 > 4611686018427387903 then (ferruleref17_May.j0 k true a0_0 a0_1 a0_2 a0_3 a0_4 a0_5 a0_6 a0_7 l0_8 a0_9) else (if a0_5 > 4611686018427387903 then (ferruleref17_May.j0 k true a0_0 a0_1 a0_2 a0_3 a0_4 a0_5 a0_6 a0_7 l0_8 a0_9) else (if a0_6 > 4611686018427387903 then (ferruleref17_May.j0 k true a0_0 a0_1 a0_2 a0_3 a0_4 a0_5 a0_6 a0_7 l0_8 a0_9) else (if (l0_8.length : Int) > 8 then (ferruleref17_May.j0 k true a0_0 a0_1 a0_2 a0_3 a0_4 a0_5 a0_6 a0_7 l0_8 a0_9) else (ferruleref17_May.j0 k (decide ((a0_9.size : Int) > 4096)) a0_0 a0_1 a0_2 a0_3 a0_4 a0_5 a0_6 a0_7 l0_8 a0_9)))))))))))) = some r := h
 clear h
 have HC2 := am_ H
 clear H
 go_enter Try.func34, Try.ntmps34
 go_upto_region 1 with (first | ((with_reducible refine gate_dst (N := 1) rfl ?_); (try (refine gate_guard (by rfl) ?_; dsimp only)); refine box_event ?hg (N := 1) ?hd (cs := #[.int .i64 a0_0, .int .u64 a0_1, .int .u64 a0_2, .int .u64 a0_3, .int .u64 a0_4, .int .u64 a0_5, .int .u64 a0_6, .bool a0_7, .slice A0_8 l0_8.length c0_8, .string a0_9]) (t := 57) ?hr ?_; (case hd => rfl); (case hg => rfl); (case hr => first | (go_simp; done) | (go_simp; rfl)); intro gb398 hg w3 hbox hb; have n0_ := am_ (below_step (by repeat (first | (with_reducible first | exact HB.out | apply below_alloc | apply pw_below_drewN | apply below_drew1) | exact HB.out | exact Below.refl _ _)) hb); have n1_ := am_ (hbox); have n2_ := am_ ((by rw [hg]; exact (below_size (hx_ HB)) : w.heap.size ≤ gb398)); have n3_ := am_ ((by rw [hg]; exact (below_size (hx_ HB)) : w.heap.size ≤ gb398)); clear HB; have HB := n0_; have BK398 := n1_; have GW398 := n2_; have GE398 := n3_; clear n0_ n1_ n2_ n3_; clear hb hbox hg))
 (try simp only [Act.put, List.setIfInBounds_toArray, List.set_cons_zero, List.set_cons_succ])
 go_cut [63] (fun v63 wc => ∃ (kq : Nat) (x63_1 : Bool), v63 = .bool x63_1 ∧ Aside0 (ferruleref17_May.j0 kq x63_1 a0_0 a0_1 a0_2 a0_3 a0_4 a0_5 a0_6 a0_7 l0_8 a0_9 = some r) ∧ Aside0 (kq ≤ k) ∧ Aside0 (wc.heap[gb398]? = some (.cells #[.int .i64 a0_0, .int .u64 a0_1, .int .u64 a0_2, .int .u64 a0_3, .int .u64 a0_4, .int .u64 a0_5, .int .u64 a0_6, .bool a0_7, (.slice A0_8 l0_8.length c0_8), .string a0_9] 57 (0, 0))) ∧ Aside0 (Below w.heap.size w wc))
 case first =>
  have H := HC2.out
  clear HC2
  by_cases c4 : a0_0 < 1
  ·rw [if_pos c4] at H
   have c4b0 : decide (a0_0 < 1) = true := decide_eq_true c4
   clear c4
   (first | rw [c4b0] | (simp only [i64_w, i32_w]; rw [c4b0]) | skip)
   have H' := am_ H
   clear H
   have hcz5_0 : w3.cell? ⟨gb398, 0, none⟩ = some (.int .i64 a0_0) := (blk_cell BK398.out 0).trans rfl
   have hcz5_1 : w3.cell? ⟨gb398, 1, none⟩ = some (.int .u64 a0_1) := (blk_cell BK398.out 1).trans rfl
   have hcz5_2 : w3.cell? ⟨gb398, 2, none⟩ = some (.int .u64 a0_2) := (blk_cell BK398.out 2).trans rfl
   have hcz5_3 : w3.cell? ⟨gb398, 3, none⟩ = some (.int .u64 a0_3) := (blk_cell BK398.out 3).trans rfl
   have hcz5_4 : w3.cell? ⟨gb398, 4, none⟩ = some (.int .u64 a0_4) := (blk_cell BK398.out 4).trans rfl
   have hcz5_5 : w3.cell? ⟨gb398, 5, none⟩ = some (.int .u64 a0_5) := (blk_cell BK398.out 5).trans rfl
   have hcz5_6 : w3.cell? ⟨gb398, 6, none⟩ = some (.int .u64 a0_6) := (blk_cell BK398.out 6).trans rfl
   have hcz5_7 : w3.cell? ⟨gb398, 7, none⟩ = some (.bool a0_7) := (blk_cell BK398.out 7).trans rfl
   have hcz5_8 : w3.cell? ⟨gb398, 8, none⟩ = some (.slice A0_8 l0_8.length c0_8) := (blk_cell BK398.out 8).trans rfl
   have hcz5_9 : w3.cell? ⟨gb398, 9, none⟩ = some (.string a0_9) := (blk_cell BK398.out 9).trans rfl
   have hfz5_0 := blk_frozen BK398.out 0
   have hfz5_1 := blk_frozen BK398.out 1
   have hfz5_2 := blk_frozen BK398.out 2
   have hfz5_3 := blk_frozen BK398.out 3
   have hfz5_4 := blk_frozen BK398.out 4
   have hfz5_5 := blk_frozen BK398.out 5
   have hfz5_6 := blk_frozen BK398.out 6
   have hfz5_7 := blk_frozen BK398.out 7
   have hfz5_8 := blk_frozen BK398.out 8
   have hfz5_9 := blk_frozen BK398.out 9
   go_wp2
   go_meet
   case rel => exact ⟨_, (true), (by first | rfl | (simp; done) | (simp [*]; done)), H', ⟨by first | omega | exact Nat.le_refl _⟩, ⟨bx_ BK398⟩, ⟨hx_ HB⟩⟩
  ·rw [if_neg c4] at H
   have c4b0 : decide (a0_0 < 1) = false := decide_eq_false c4
   clear c4
   (first | rw [c4b0] | (simp only [i64_w, i32_w]; rw [c4b0]) | skip)
   by_cases c6 : a0_0 > 7
   ·rw [if_pos c6] at H
    have c6b0 : decide (7 < a0_0) = true := decide_eq_true c6
    clear c6
    have H' := am_ H
    clear H
    have hcz7_0 : w3.cell? ⟨gb398, 0, none⟩ = some (.int .i64 a0_0) := (blk_cell BK398.out 0).trans rfl
    have hcz7_1 : w3.cell? ⟨gb398, 1, none⟩ = some (.int .u64 a0_1) := (blk_cell BK398.out 1).trans rfl
    have hcz7_2 : w3.cell? ⟨gb398, 2, none⟩ = some (.int .u64 a0_2) := (blk_cell BK398.out 2).trans rfl
    have hcz7_3 : w3.cell? ⟨gb398, 3, none⟩ = some (.int .u64 a0_3) := (blk_cell BK398.out 3).trans rfl
    have hcz7_4 : w3.cell? ⟨gb398, 4, none⟩ = some (.int .u64 a0_4) := (blk_cell BK398.out 4).trans rfl
    have hcz7_5 : w3.cell? ⟨gb398, 5, none⟩ = some (.int .u64 a0_5) := (blk_cell BK398.out 5).trans rfl
    have hcz7_6 : w3.cell? ⟨gb398, 6, none⟩ = some (.int .u64 a0_6) := (blk_cell BK398.out 6).trans rfl
    have hcz7_7 : w3.cell? ⟨gb398, 7, none⟩ = some (.bool a0_7) := (blk_cell BK398.out 7).trans rfl
    have hcz7_8 : w3.cell? ⟨gb398, 8, none⟩ = some (.slice A0_8 l0_8.length c0_8) := (blk_cell BK398.out 8).trans rfl
    have hcz7_9 : w3.cell? ⟨gb398, 9, none⟩ = some (.string a0_9) := (blk_cell BK398.out 9).trans rfl
    have hfz7_0 := blk_frozen BK398.out 0
    have hfz7_1 := blk_frozen BK398.out 1
    have hfz7_2 := blk_frozen BK398.out 2
    have hfz7_3 := blk_frozen BK398.out 3
    have hfz7_4 := blk_frozen BK398.out 4
    have hfz7_5 := blk_frozen BK398.out 5
    have hfz7_6 := blk_frozen BK398.out 6
    have hfz7_7 := blk_frozen BK398.out 7
    have hfz7_8 := blk_frozen BK398.out 8
    have hfz7_9 := blk_frozen BK398.out 9
    go_wp2
    go_meet
    case rel => exact ⟨_, (true), (by first | rfl | (simp; done) | (simp [*]; done)), H', ⟨by first | omega | exact Nat.le_refl _⟩, ⟨bx_ BK398⟩, ⟨hx_ HB⟩⟩
   ·rw [if_neg c6] at H
    have c6b0 : decide (7 < a0_0) = false := decide_eq_false c6
    clear c6
    by_cases c8 : a0_1 < 1
    ·rw [if_pos c8] at H
     have c8b0 : decide (a0_1 < 1) = true := decide_eq_true c8
     clear c8
     have H' := am_ H
     clear H
     have hcz9_0 : w3.cell? ⟨gb398, 0, none⟩ = some (.int .i64 a0_0) := (blk_cell BK398.out 0).trans rfl
     have hcz9_1 : w3.cell? ⟨gb398, 1, none⟩ = some (.int .u64 a0_1) := (blk_cell BK398.out 1).trans rfl
     have hcz9_2 : w3.cell? ⟨gb398, 2, none⟩ = some (.int .u64 a0_2) := (blk_cell BK398.out 2).trans rfl
     have hcz9_3 : w3.cell? ⟨gb398, 3, none⟩ = some (.int .u64 a0_3) := (blk_cell BK398.out 3).trans rfl
     have hcz9_4 : w3.cell? ⟨gb398, 4, none⟩ = some (.int .u64 a0_4) := (blk_cell BK398.out 4).trans rfl
     have hcz9_5 : w3.cell? ⟨gb398, 5, none⟩ = some (.int .u64 a0_5) := (blk_cell BK398.out 5).trans rfl
     have hcz9_6 : w3.cell? ⟨gb398, 6, none⟩ = some (.int .u64 a0_6) := (blk_cell BK398.out 6).trans rfl
     have hcz9_7 : w3.cell? ⟨gb398, 7, none⟩ = some (.bool a0_7) := (blk_cell BK398.out 7).trans rfl
     have hcz9_8 : w3.cell? ⟨gb398, 8, none⟩ = some (.slice A0_8 l0_8.length c0_8) := (blk_cell BK398.out 8).trans rfl
     have hcz9_9 : w3.cell? ⟨gb398, 9, none⟩ = some (.string a0_9) := (blk_cell BK398.out 9).trans rfl
     have hfz9_0 := blk_frozen BK398.out 0
     have hfz9_1 := blk_frozen BK398.out 1
     have hfz9_2 := blk_frozen BK398.out 2
     have hfz9_3 := blk_frozen BK398.out 3
     have hfz9_4 := blk_frozen BK398.out 4
     have hfz9_5 := blk_frozen BK398.out 5
     have hfz9_6 := blk_frozen BK398.out 6
     have hfz9_7 := blk_frozen BK398.out 7
     have hfz9_8 := blk_frozen BK398.out 8
     have hfz9_9 := blk_frozen BK398.out 9
     go_wp2
     go_meet
     case rel => exact ⟨_, (true), (by first | rfl | (simp; done) | (simp [*]; done)), H', ⟨by first | omega | exact Nat.le_refl _⟩, ⟨bx_ BK398⟩, ⟨hx_ HB⟩⟩
    ·rw [if_neg c8] at H
     have c8b0 : decide (a0_1 < 1) = false := decide_eq_false c8
     clear c8
     by_cases c10 : a0_1 > 63
     ·rw [if_pos c10] at H
      have c10b0 : decide (63 < a0_1) = true := decide_eq_true c10
      clear c10
      have H' := am_ H
      clear H
      have hcz11_0 : w3.cell? ⟨gb398, 0, none⟩ = some (.int .i64 a0_0) := (blk_cell BK398.out 0).trans rfl
      have hcz11_1 : w3.cell? ⟨gb398, 1, none⟩ = some (.int .u64 a0_1) := (blk_cell BK398.out 1).trans rfl
      have hcz11_2 : w3.cell? ⟨gb398, 2, none⟩ = some (.int .u64 a0_2) := (blk_cell BK398.out 2).trans rfl
      have hcz11_3 : w3.cell? ⟨gb398, 3, none⟩ = some (.int .u64 a0_3) := (blk_cell BK398.out 3).trans rfl
      have hcz11_4 : w3.cell? ⟨gb398, 4, none⟩ = some (.int .u64 a0_4) := (blk_cell BK398.out 4).trans rfl
      have hcz11_5 : w3.cell? ⟨gb398, 5, none⟩ = some (.int .u64 a0_5) := (blk_cell BK398.out 5).trans rfl
      have hcz11_6 : w3.cell? ⟨gb398, 6, none⟩ = some (.int .u64 a0_6) := (blk_cell BK398.out 6).trans rfl
      have hcz11_7 : w3.cell? ⟨gb398, 7, none⟩ = some (.bool a0_7) := (blk_cell BK398.out 7).trans rfl
      have hcz11_8 : w3.cell? ⟨gb398, 8, none⟩ = some (.slice A0_8 l0_8.length c0_8) := (blk_cell BK398.out 8).trans rfl
      have hcz11_9 : w3.cell? ⟨gb398, 9, none⟩ = some (.string a0_9) := (blk_cell BK398.out 9).trans rfl
      have hfz11_0 := blk_frozen BK398.out 0
      have hfz11_1 := blk_frozen BK398.out 1
      have hfz11_2 := blk_frozen BK398.out 2
      have hfz11_3 := blk_frozen BK398.out 3
      have hfz11_4 := blk_frozen BK398.out 4
      have hfz11_5 := blk_frozen BK398.out 5
      have hfz11_6 := blk_frozen BK398.out 6
      have hfz11_7 := blk_frozen BK398.out 7
      have hfz11_8 := blk_frozen BK398.out 8
      have hfz11_9 := blk_frozen BK398.out 9
      go_wp2
      go_meet
      case rel => exact ⟨_, (true), (by first | rfl | (simp; done) | (simp [*]; done)), H', ⟨by first | omega | exact Nat.le_refl _⟩, ⟨bx_ BK398⟩, ⟨hx_ HB⟩⟩
     ·rw [if_neg c10] at H
      have c10b0 : decide (63 < a0_1) = false := decide_eq_false c10
      clear c10
      by_cases c12 : a0_2 < 1
      ·rw [if_pos c12] at H
       have c12b0 : decide (a0_2 < 1) = true := decide_eq_true c12
       clear c12
       have H' := am_ H
       clear H
       have hcz13_0 : w3.cell? ⟨gb398, 0, none⟩ = some (.int .i64 a0_0) := (blk_cell BK398.out 0).trans rfl
       have hcz13_1 : w3.cell? ⟨gb398, 1, none⟩ = some (.int .u64 a0_1) := (blk_cell BK398.out 1).trans rfl
       have hcz13_2 : w3.cell? ⟨gb398, 2, none⟩ = some (.int .u64 a0_2) := (blk_cell BK398.out 2).trans rfl
       have hcz13_3 : w3.cell? ⟨gb398, 3, none⟩ = some (.int .u64 a0_3) := (blk_cell BK398.out 3).trans rfl
       have hcz13_4 : w3.cell? ⟨gb398, 4, none⟩ = some (.int .u64 a0_4) := (blk_cell BK398.out 4).trans rfl
       have hcz13_5 : w3.cell? ⟨gb398, 5, none⟩ = some (.int .u64 a0_5) := (blk_cell BK398.out 5).trans rfl
       have hcz13_6 : w3.cell? ⟨gb398, 6, none⟩ = some (.int .u64 a0_6) := (blk_cell BK398.out 6).trans rfl
       have hcz13_7 : w3.cell? ⟨gb398, 7, none⟩ = some (.bool a0_7) := (blk_cell BK398.out 7).trans rfl
       have hcz13_8 : w3.cell? ⟨gb398, 8, none⟩ = some (.slice A0_8 l0_8.length c0_8) := (blk_cell BK398.out 8).trans rfl
       have hcz13_9 : w3.cell? ⟨gb398, 9, none⟩ = some (.string a0_9) := (blk_cell BK398.out 9).trans rfl
       have hfz13_0 := blk_frozen BK398.out 0
       have hfz13_1 := blk_frozen BK398.out 1
       have hfz13_2 := blk_frozen BK398.out 2
       have hfz13_3 := blk_frozen BK398.out 3
       have hfz13_4 := blk_frozen BK398.out 4
       have hfz13_5 := blk_frozen BK398.out 5
       have hfz13_6 := blk_frozen BK398.out 6
       have hfz13_7 := blk_frozen BK398.out 7
       have hfz13_8 := blk_frozen BK398.out 8
       have hfz13_9 := blk_frozen BK398.out 9
       go_wp2
       go_meet
       case rel => exact ⟨_, (true), (by first | rfl | (simp; done) | (simp [*]; done)), H', ⟨by first | omega | exact Nat.le_refl _⟩, ⟨bx_ BK398⟩, ⟨hx_ HB⟩⟩
      ·rw [if_neg c12] at H
       have c12b0 : decide (a0_2 < 1) = false := decide_eq_false c12
       clear c12
       by_cases c14 : a0_2 > 63
       ·rw [if_pos c14] at H
        have c14b0 : decide (63 < a0_2) = true := decide_eq_true c14
        clear c14
        have H' := am_ H
        clear H
        have hcz15_0 : w3.cell? ⟨gb398, 0, none⟩ = some (.int .i64 a0_0) := (blk_cell BK398.out 0).trans rfl
        have hcz15_1 : w3.cell? ⟨gb398, 1, none⟩ = some (.int .u64 a0_1) := (blk_cell BK398.out 1).trans rfl
        have hcz15_2 : w3.cell? ⟨gb398, 2, none⟩ = some (.int .u64 a0_2) := (blk_cell BK398.out 2).trans rfl
        have hcz15_3 : w3.cell? ⟨gb398, 3, none⟩ = some (.int .u64 a0_3) := (blk_cell BK398.out 3).trans rfl
        have hcz15_4 : w3.cell? ⟨gb398, 4, none⟩ = some (.int .u64 a0_4) := (blk_cell BK398.out 4).trans rfl
        have hcz15_5 : w3.cell? ⟨gb398, 5, none⟩ = some (.int .u64 a0_5) := (blk_cell BK398.out 5).trans rfl
        have hcz15_6 : w3.cell? ⟨gb398, 6, none⟩ = some (.int .u64 a0_6) := (blk_cell BK398.out 6).trans rfl
        have hcz15_7 : w3.cell? ⟨gb398, 7, none⟩ = some (.bool a0_7) := (blk_cell BK398.out 7).trans rfl
        have hcz15_8 : w3.cell? ⟨gb398, 8, none⟩ = some (.slice A0_8 l0_8.length c0_8) := (blk_cell BK398.out 8).trans rfl
        have hcz15_9 : w3.cell? ⟨gb398, 9, none⟩ = some (.string a0_9) := (blk_cell BK398.out 9).trans rfl
        have hfz15_0 := blk_frozen BK398.out 0
        have hfz15_1 := blk_frozen BK398.out 1
        have hfz15_2 := blk_frozen BK398.out 2
        have hfz15_3 := blk_frozen BK398.out 3
        have hfz15_4 := blk_frozen BK398.out 4
        have hfz15_5 := blk_frozen BK398.out 5
        have hfz15_6 := blk_frozen BK398.out 6
        have hfz15_7 := blk_frozen BK398.out 7
        have hfz15_8 := blk_frozen BK398.out 8
        have hfz15_9 := blk_frozen BK398.out 9
        go_wp2
        go_meet
        case rel => exact ⟨_, (true), (by first | rfl | (simp; done) | (simp [*]; done)), H', ⟨by first | omega | exact Nat.le_refl _⟩, ⟨bx_ BK398⟩, ⟨hx_ HB⟩⟩
       ·rw [if_neg c14] at H
        have c14b0 : decide (63 < a0_2) = false := decide_eq_false c14
        clear c14
        by_cases c16 : a0_3 > 4611686018427387903
        ·rw [if_pos c16] at H
         have c16b0 : decide (4611686018427387903 < a0_3) = true := decide_eq_true c16
         clear c16
         have H' := am_ H
         clear H
         have hcz17_0 : w3.cell? ⟨gb398, 0, none⟩ = some (.int .i64 a0_0) := (blk_cell BK398.out 0).trans rfl
         have hcz17_1 : w3.cell? ⟨gb398, 1, none⟩ = some (.int .u64 a0_1) := (blk_cell BK398.out 1).trans rfl
         have hcz17_2 : w3.cell? ⟨gb398, 2, none⟩ = some (.int .u64 a0_2) := (blk_cell BK398.out 2).trans rfl
         have hcz17_3 : w3.cell? ⟨gb398, 3, none⟩ = some (.int .u64 a0_3) := (blk_cell BK398.out 3).trans rfl
         have hcz17_4 : w3.cell? ⟨gb398, 4, none⟩ = some (.int .u64 a0_4) := (blk_cell BK398.out 4).trans rfl
         have hcz17_5 : w3.cell? ⟨gb398, 5, none⟩ = some (.int .u64 a0_5) := (blk_cell BK398.out 5).trans rfl
         have hcz17_6 : w3.cell? ⟨gb398, 6, none⟩ = some (.int .u64 a0_6) := (blk_cell BK398.out 6).trans rfl
         have hcz17_7 : w3.cell? ⟨gb398, 7, none⟩ = some (.bool a0_7) := (blk_cell BK398.out 7).trans rfl
         have hcz17_8 : w3.cell? ⟨gb398, 8, none⟩ = some (.slice A0_8 l0_8.length c0_8) := (blk_cell BK398.out 8).trans rfl
         have hcz17_9 : w3.cell? ⟨gb398, 9, none⟩ = some (.string a0_9) := (blk_cell BK398.out 9).trans rfl
         have hfz17_0 := blk_frozen BK398.out 0
         have hfz17_1 := blk_frozen BK398.out 1
         have hfz17_2 := blk_frozen BK398.out 2
         have hfz17_3 := blk_frozen BK398.out 3
         have hfz17_4 := blk_frozen BK398.out 4
         have hfz17_5 := blk_frozen BK398.out 5
         have hfz17_6 := blk_frozen BK398.out 6
         have hfz17_7 := blk_frozen BK398.out 7
         have hfz17_8 := blk_frozen BK398.out 8
         have hfz17_9 := blk_frozen BK398.out 9
         go_wp2
         go_meet
         case rel => exact ⟨_, (true), (by first | rfl | (simp; done) | (simp [*]; done)), H', ⟨by first | omega | exact Nat.le_refl _⟩, ⟨bx_ BK398⟩, ⟨hx_ HB⟩⟩
        ·rw [if_neg c16] at H
         have c16b0 : decide (4611686018427387903 < a0_3) = false := decide_eq_false c16
         clear c16
         by_cases c18 : a0_4 > 4611686018427387903
         ·rw [if_pos c18] at H
          have c18b0 : decide (4611686018427387903 < a0_4) = true := decide_eq_true c18
          clear c18
          have H' := am_ H
          clear H
          have hcz19_0 : w3.cell? ⟨gb398, 0, none⟩ = some (.int .i64 a0_0) := (blk_cell BK398.out 0).trans rfl
          have hcz19_1 : w3.cell? ⟨gb398, 1, none⟩ = some (.int .u64 a0_1) := (blk_cell BK398.out 1).trans rfl
          have hcz19_2 : w3.cell? ⟨gb398, 2, none⟩ = some (.int .u64 a0_2) := (blk_cell BK398.out 2).trans rfl
          have hcz19_3 : w3.cell? ⟨gb398, 3, none⟩ = some (.int .u64 a0_3) := (blk_cell BK398.out 3).trans rfl
          have hcz19_4 : w3.cell? ⟨gb398, 4, none⟩ = some (.int .u64 a0_4) := (blk_cell BK398.out 4).trans rfl
          have hcz19_5 : w3.cell? ⟨gb398, 5, none⟩ = some (.int .u64 a0_5) := (blk_cell BK398.out 5).trans rfl
          have hcz19_6 : w3.cell? ⟨gb398, 6, none⟩ = some (.int .u64 a0_6) := (blk_cell BK398.out 6).trans rfl
          have hcz19_7 : w3.cell? ⟨gb398, 7, none⟩ = some (.bool a0_7) := (blk_cell BK398.out 7).trans rfl
          have hcz19_8 : w3.cell? ⟨gb398, 8, none⟩ = some (.slice A0_8 l0_8.length c0_8) := (blk_cell BK398.out 8).trans rfl
          have hcz19_9 : w3.cell? ⟨gb398, 9, none⟩ = some (.string a0_9) := (blk_cell BK398.out 9).trans rfl
          have hfz19_0 := blk_frozen BK398.out 0
          have hfz19_1 := blk_frozen BK398.out 1
          have hfz19_2 := blk_frozen BK398.out 2
          have hfz19_3 := blk_frozen BK398.out 3
          have hfz19_4 := blk_frozen BK398.out 4
          have hfz19_5 := blk_frozen BK398.out 5
          have hfz19_6 := blk_frozen BK398.out 6
          have hfz19_7 := blk_frozen BK398.out 7
          have hfz19_8 := blk_frozen BK398.out 8
          have hfz19_9 := blk_frozen BK398.out 9
          go_wp2
          go_meet
          case rel => exact ⟨_, (true), (by first | rfl | (simp; done) | (simp [*]; done)), H', ⟨by first | omega | exact Nat.le_refl _⟩, ⟨bx_ BK398⟩, ⟨hx_ HB⟩⟩
         ·rw [if_neg c18] at H
          have c18b0 : decide (4611686018427387903 < a0_4) = false := decide_eq_false c18
          clear c18
          by_cases c20 : a0_5 > 4611686018427387903
          ·rw [if_pos c20] at H
           have c20b0 : decide (4611686018427387903 < a0_5) = true := decide_eq_true c20
           clear c20
           have H' := am_ H
           clear H
           have hcz21_0 : w3.cell? ⟨gb398, 0, none⟩ = some (.int .i64 a0_0) := (blk_cell BK398.out 0).trans rfl
           have hcz21_1 : w3.cell? ⟨gb398, 1, none⟩ = some (.int .u64 a0_1) := (blk_cell BK398.out 1).trans rfl
           have hcz21_2 : w3.cell? ⟨gb398, 2, none⟩ = some (.int .u64 a0_2) := (blk_cell BK398.out 2).trans rfl
           have hcz21_3 : w3.cell? ⟨gb398, 3, none⟩ = some (.int .u64 a0_3) := (blk_cell BK398.out 3).trans rfl
           have hcz21_4 : w3.cell? ⟨gb398, 4, none⟩ = some (.int .u64 a0_4) := (blk_cell BK398.out 4).trans rfl
           have hcz21_5 : w3.cell? ⟨gb398, 5, none⟩ = some (.int .u64 a0_5) := (blk_cell BK398.out 5).trans rfl
           have hcz21_6 : w3.cell? ⟨gb398, 6, none⟩ = some (.int .u64 a0_6) := (blk_cell BK398.out 6).trans rfl
           have hcz21_7 : w3.cell? ⟨gb398, 7, none⟩ = some (.bool a0_7) := (blk_cell BK398.out 7).trans rfl
           have hcz21_8 : w3.cell? ⟨gb398, 8, none⟩ = some (.slice A0_8 l0_8.length c0_8) := (blk_cell BK398.out 8).trans rfl
           have hcz21_9 : w3.cell? ⟨gb398, 9, none⟩ = some (.string a0_9) := (blk_cell BK398.out 9).trans rfl
           have hfz21_0 := blk_frozen BK398.out 0
           have hfz21_1 := blk_frozen BK398.out 1
           have hfz21_2 := blk_frozen BK398.out 2
           have hfz21_3 := blk_frozen BK398.out 3
           have hfz21_4 := blk_frozen BK398.out 4
           have hfz21_5 := blk_frozen BK398.out 5
           have hfz21_6 := blk_frozen BK398.out 6
           have hfz21_7 := blk_frozen BK398.out 7
           have hfz21_8 := blk_frozen BK398.out 8
           have hfz21_9 := blk_frozen BK398.out 9
           go_wp2
           go_meet
           case rel => exact ⟨_, (true), (by first | rfl | (simp; done) | (simp [*]; done)), H', ⟨by first | omega | exact Nat.le_refl _⟩, ⟨bx_ BK398⟩, ⟨hx_ HB⟩⟩
          ·rw [if_neg c20] at H
           have c20b0 : decide (4611686018427387903 < a0_5) = false := decide_eq_false c20
           clear c20
           by_cases c22 : a0_6 > 4611686018427387903
           ·rw [if_pos c22] at H
            have c22b0 : decide (4611686018427387903 < a0_6) = true := decide_eq_true c22
            clear c22
            have H' := am_ H
            clear H
            have hcz23_0 : w3.cell? ⟨gb398, 0, none⟩ = some (.int .i64 a0_0) := (blk_cell BK398.out 0).trans rfl
            have hcz23_1 : w3.cell? ⟨gb398, 1, none⟩ = some (.int .u64 a0_1) := (blk_cell BK398.out 1).trans rfl
            have hcz23_2 : w3.cell? ⟨gb398, 2, none⟩ = some (.int .u64 a0_2) := (blk_cell BK398.out 2).trans rfl
            have hcz23_3 : w3.cell? ⟨gb398, 3, none⟩ = some (.int .u64 a0_3) := (blk_cell BK398.out 3).trans rfl
            have hcz23_4 : w3.cell? ⟨gb398, 4, none⟩ = some (.int .u64 a0_4) := (blk_cell BK398.out 4).trans rfl
            have hcz23_5 : w3.cell? ⟨gb398, 5, none⟩ = some (.int .u64 a0_5) := (blk_cell BK398.out 5).trans rfl
            have hcz23_6 : w3.cell? ⟨gb398, 6, none⟩ = some (.int .u64 a0_6) := (blk_cell BK398.out 6).trans rfl
            have hcz23_7 : w3.cell? ⟨gb398, 7, none⟩ = some (.bool a0_7) := (blk_cell BK398.out 7).trans rfl
            have hcz23_8 : w3.cell? ⟨gb398, 8, none⟩ = some (.slice A0_8 l0_8.length c0_8) := (blk_cell BK398.out 8).trans rfl
            have hcz23_9 : w3.cell? ⟨gb398, 9, none⟩ = some (.string a0_9) := (blk_cell BK398.out 9).trans rfl
            have hfz23_0 := blk_frozen BK398.out 0
            have hfz23_1 := blk_frozen BK398.out 1
            have hfz23_2 := blk_frozen BK398.out 2
            have hfz23_3 := blk_frozen BK398.out 3
            have hfz23_4 := blk_frozen BK398.out 4
            have hfz23_5 := blk_frozen BK398.out 5
            have hfz23_6 := blk_frozen BK398.out 6
            have hfz23_7 := blk_frozen BK398.out 7
            have hfz23_8 := blk_frozen BK398.out 8
            have hfz23_9 := blk_frozen BK398.out 9
            go_wp2
            go_meet
            case rel => exact ⟨_, (true), (by first | rfl | (simp; done) | (simp [*]; done)), H', ⟨by first | omega | exact Nat.le_refl _⟩, ⟨bx_ BK398⟩, ⟨hx_ HB⟩⟩
           ·rw [if_neg c22] at H
            have c22b0 : decide (4611686018427387903 < a0_6) = false := decide_eq_false c22
            clear c22
            by_cases c24 : (l0_8.length : Int) > 8
            ·rw [if_pos c24] at H
             have c24b0 : decide (8 < (l0_8.length : Int)) = true := decide_eq_true c24
             have c24b1 : decide (8 < l0_8.length) = true := decide_eq_true (by omega)
             clear c24
             have H' := am_ H
             clear H
             have hcz25_0 : w3.cell? ⟨gb398, 0, none⟩ = some (.int .i64 a0_0) := (blk_cell BK398.out 0).trans rfl
             have hcz25_1 : w3.cell? ⟨gb398, 1, none⟩ = some (.int .u64 a0_1) := (blk_cell BK398.out 1).trans rfl
             have hcz25_2 : w3.cell? ⟨gb398, 2, none⟩ = some (.int .u64 a0_2) := (blk_cell BK398.out 2).trans rfl
             have hcz25_3 : w3.cell? ⟨gb398, 3, none⟩ = some (.int .u64 a0_3) := (blk_cell BK398.out 3).trans rfl
             have hcz25_4 : w3.cell? ⟨gb398, 4, none⟩ = some (.int .u64 a0_4) := (blk_cell BK398.out 4).trans rfl
             have hcz25_5 : w3.cell? ⟨gb398, 5, none⟩ = some (.int .u64 a0_5) := (blk_cell BK398.out 5).trans rfl
             have hcz25_6 : w3.cell? ⟨gb398, 6, none⟩ = some (.int .u64 a0_6) := (blk_cell BK398.out 6).trans rfl
             have hcz25_7 : w3.cell? ⟨gb398, 7, none⟩ = some (.bool a0_7) := (blk_cell BK398.out 7).trans rfl
             have hcz25_8 : w3.cell? ⟨gb398, 8, none⟩ = some (.slice A0_8 l0_8.length c0_8) := (blk_cell BK398.out 8).trans rfl
             have hcz25_9 : w3.cell? ⟨gb398, 9, none⟩ = some (.string a0_9) := (blk_cell BK398.out 9).trans rfl
             have hfz25_0 := blk_frozen BK398.out 0
             have hfz25_1 := blk_frozen BK398.out 1
             have hfz25_2 := blk_frozen BK398.out 2
             have hfz25_3 := blk_frozen BK398.out 3
             have hfz25_4 := blk_frozen BK398.out 4
             have hfz25_5 := blk_frozen BK398.out 5
             have hfz25_6 := blk_frozen BK398.out 6
             have hfz25_7 := blk_frozen BK398.out 7
             have hfz25_8 := blk_frozen BK398.out 8
             have hfz25_9 := blk_frozen BK398.out 9
             go_wp2
             go_meet
             case rel => exact ⟨_, (true), (by first | rfl | (simp; done) | (simp [*]; done)), H', ⟨by first | omega | exact Nat.le_refl _⟩, ⟨bx_ BK398⟩, ⟨hx_ HB⟩⟩
            ·rw [if_neg c24] at H
             have c24b0 : decide (8 < (l0_8.length : Int)) = false := decide_eq_false c24
             have c24b1 : decide (8 < l0_8.length) = false := decide_eq_false (by omega)
             clear c24
             have H' := am_ H
             clear H
             have hcz26_0 : w3.cell? ⟨gb398, 0, none⟩ = some (.int .i64 a0_0) := (blk_cell BK398.out 0).trans rfl
             have hcz26_1 : w3.cell? ⟨gb398, 1, none⟩ = some (.int .u64 a0_1) := (blk_cell BK398.out 1).trans rfl
             have hcz26_2 : w3.cell? ⟨gb398, 2, none⟩ = some (.int .u64 a0_2) := (blk_cell BK398.out 2).trans rfl
             have hcz26_3 : w3.cell? ⟨gb398, 3, none⟩ = some (.int .u64 a0_3) := (blk_cell BK398.out 3).trans rfl
             have hcz26_4 : w3.cell? ⟨gb398, 4, none⟩ = some (.int .u64 a0_4) := (blk_cell BK398.out 4).trans rfl
             have hcz26_5 : w3.cell? ⟨gb398, 5, none⟩ = some (.int .u64 a0_5) := (blk_cell BK398.out 5).trans rfl
             have hcz26_6 : w3.cell? ⟨gb398, 6, none⟩ = some (.int .u64 a0_6) := (blk_cell BK398.out 6).trans rfl
             have hcz26_7 : w3.cell? ⟨gb398, 7, none⟩ = some (.bool a0_7) := (blk_cell BK398.out 7).trans rfl
             have hcz26_8 : w3.cell? ⟨gb398, 8, none⟩ = some (.slice A0_8 l0_8.length c0_8) := (blk_cell BK398.out 8).trans rfl
             have hcz26_9 : w3.cell? ⟨gb398, 9, none⟩ = some (.string a0_9) := (blk_cell BK398.out 9).trans rfl
             have hfz26_0 := blk_frozen BK398.out 0
             have hfz26_1 := blk_frozen BK398.out 1
             have hfz26_2 := blk_frozen BK398.out 2
             have hfz26_3 := blk_frozen BK398.out 3
             have hfz26_4 := blk_frozen BK398.out 4
             have hfz26_5 := blk_frozen BK398.out 5
             have hfz26_6 := blk_frozen BK398.out 6
             have hfz26_7 := blk_frozen BK398.out 7
             have hfz26_8 := blk_frozen BK398.out 8
             have hfz26_9 := blk_frozen BK398.out 9
             go_wp2
             go_meet
             case rel => exact ⟨_, (decide ((a0_9.size : Int) > 4096)), (by first | rfl | (simp; done) | (simp [*]; done)), H', ⟨by first | omega | exact Nat.le_refl _⟩, ⟨bx_ BK398⟩, ⟨hx_ HB⟩⟩
 case rest =>
  clear HC2
  try clear c1
  try clear c2
  try clear p2
  try clear c3
  try clear c4
  try clear c4b0
  try clear c6
  try clear c6b0
  try clear c8
  try clear c8b0
  try clear c10
  try clear c10b0
  try clear c12
  try clear c12b0
  try clear c14
  try clear c14b0
  try clear c16
  try clear c16b0
  try clear c18
  try clear c18b0
  try clear c20
  try clear c20b0
  try clear c22
  try clear c22b0
  try clear c24
  try clear c24b0
  try clear c24b1
  try clear hcz11_0
  try clear hcz11_1
  try clear hcz11_2
  try clear hcz11_3
  try clear hcz11_4
  try clear hcz11_5
  try clear hcz11_6
  try clear hcz11_7
  try clear hcz11_8
  try clear hcz11_9
  try clear hcz13_0
  try clear hcz13_1
  try clear hcz13_2
  try clear hcz13_3
  try clear hcz13_4
  try clear hcz13_5
  try clear hcz13_6
  try clear hcz13_7
  try clear hcz13_8
  try clear hcz13_9
  try clear hcz15_0
  try clear hcz15_1
  try clear hcz15_2
  try clear hcz15_3
  try clear hcz15_4
  try clear hcz15_5
  try clear hcz15_6
  try clear hcz15_7
  try clear hcz15_8
  try clear hcz15_9
  try clear hcz17_0
  try clear hcz17_1
  try clear hcz17_2
  try clear hcz17_3
  try clear hcz17_4
  try clear hcz17_5
  try clear hcz17_6
  try clear hcz17_7
  try clear hcz17_8
  try clear hcz17_9
  try clear hcz19_0
  try clear hcz19_1
  try clear hcz19_2
  try clear hcz19_3
  try clear hcz19_4
  try clear hcz19_5
  try clear hcz19_6
  try clear hcz19_7
  try clear hcz19_8
  try clear hcz19_9
  try clear hcz21_0
  try clear hcz21_1
  try clear hcz21_2
  try clear hcz21_3
  try clear hcz21_4
  try clear hcz21_5
  try clear hcz21_6
  try clear hcz21_7
  try clear hcz21_8
  try clear hcz21_9
  try clear hcz23_0
  try clear hcz23_1
  try clear hcz23_2
  try clear hcz23_3
  try clear hcz23_4
  try clear hcz23_5
  try clear hcz23_6
  try clear hcz23_7
  try clear hcz23_8
  try clear hcz23_9
  try clear hcz25_0
  try clear hcz25_1
  try clear hcz25_2
  try clear hcz25_3
  try clear hcz25_4
  try clear hcz25_5
  try clear hcz25_6
  try clear hcz25_7
  try clear hcz25_8
  try clear hcz25_9
  try clear hcz26_0
  try clear hcz26_1
  try clear hcz26_2
  try clear hcz26_3
  try clear hcz26_4
  try clear hcz26_5
  try clear hcz26_6
  try clear hcz26_7
  try clear hcz26_8
  try clear hcz26_9
  try clear hcz5_0
  try clear hcz5_1
  try clear hcz5_2
  try clear hcz5_3
  try clear hcz5_4
  try clear hcz5_5
  try clear hcz5_6
  try clear hcz5_7
  try clear hcz5_8
  try clear hcz5_9
  try clear hcz7_0
  try clear hcz7_1
  try clear hcz7_2
  try clear hcz7_3
  try clear hcz7_4
  try clear hcz7_5
  try clear hcz7_6
  try clear hcz7_7
  try clear hcz7_8
  try clear hcz7_9
  try clear hcz9_0
  try clear hcz9_1
  try clear hcz9_2
  try clear hcz9_3
  try clear hcz9_4
  try clear hcz9_5
  try clear hcz9_6
  try clear hcz9_7
  try clear hcz9_8
  try clear hcz9_9
  try clear hfz11_0
  try clear hfz11_1
  try clear hfz11_2
  try clear hfz11_3
  try clear hfz11_4
  try clear hfz11_5
  try clear hfz11_6
  try clear hfz11_7
  try clear hfz11_8
  try clear hfz11_9
  try clear hfz13_0
  try clear hfz13_1
  try clear hfz13_2
  try clear hfz13_3
  try clear hfz13_4
  try clear hfz13_5
  try clear hfz13_6
  try clear hfz13_7
  try clear hfz13_8
  try clear hfz13_9
  try clear hfz15_0
  try clear hfz15_1
  try clear hfz15_2
  try clear hfz15_3
  try clear hfz15_4
  try clear hfz15_5
  try clear hfz15_6
  try clear hfz15_7
  try clear hfz15_8
  try clear hfz15_9
  try clear hfz17_0
  try clear hfz17_1
  try clear hfz17_2
  try clear hfz17_3
  try clear hfz17_4
  try clear hfz17_5
  try clear hfz17_6
  try clear hfz17_7
  try clear hfz17_8
  try clear hfz17_9
  try clear hfz19_0
  try clear hfz19_1
  try clear hfz19_2
  try clear hfz19_3
  try clear hfz19_4
  try clear hfz19_5
  try clear hfz19_6
  try clear hfz19_7
  try clear hfz19_8
  try clear hfz19_9
  try clear hfz21_0
  try clear hfz21_1
  try clear hfz21_2
  try clear hfz21_3
  try clear hfz21_4
  try clear hfz21_5
  try clear hfz21_6
  try clear hfz21_7
  try clear hfz21_8
  try clear hfz21_9
  try clear hfz23_0
  try clear hfz23_1
  try clear hfz23_2
  try clear hfz23_3
  try clear hfz23_4
  try clear hfz23_5
  try clear hfz23_6
  try clear hfz23_7
  try clear hfz23_8
  try clear hfz23_9
  try clear hfz25_0
  try clear hfz25_1
  try clear hfz25_2
  try clear hfz25_3
  try clear hfz25_4
  try clear hfz25_5
  try clear hfz25_6
  try clear hfz25_7
  try clear hfz25_8
  try clear hfz25_9
  try clear hfz26_0
  try clear hfz26_1
  try clear hfz26_2
  try clear hfz26_3
  try clear hfz26_4
  try clear hfz26_5
  try clear hfz26_6
  try clear hfz26_7
  try clear hfz26_8
  try clear hfz26_9
  try clear hfz5_0
  try clear hfz5_1
  try clear hfz5_2
  try clear hfz5_3
  try clear hfz5_4
  try clear hfz5_5
  try clear hfz5_6
  try clear hfz5_7
  try clear hfz5_8
  try clear hfz5_9
  try clear hfz7_0
  try clear hfz7_1
  try clear hfz7_2
  try clear hfz7_3
  try clear hfz7_4
  try clear hfz7_5
  try clear hfz7_6
  try clear hfz7_7
  try clear hfz7_8
  try clear hfz7_9
  try clear hfz9_0
  try clear hfz9_1
  try clear hfz9_2
  try clear hfz9_3
  try clear hfz9_4
  try clear hfz9_5
  try clear hfz9_6
  try clear hfz9_7
  try clear hfz9_8
  try clear hfz9_9
  obtain ⟨kq, x63_1, rfl, HA, HJ1, BK398, HB⟩ := hcut
  cases kq with
  | zero => exact absurd HA.out (by simp [ferruleref17_May.j0])
  | succ kj1 =>
   have H := HA.out
   clear HA
   simp only [ferruleref17_May.j0] at H
   by_cases c27 : x63_1 = true
   ·subst c27
    have H1 : (some false) = some r := by rw [if_pos rfl] at H; exact H
    clear H
    have H := H1
    clear H1
    obtain rfl := Option.some.inj H
    go_wp2
    go_ret
    exact ⟨by first | rfl | (simp [errW_none, errW_some] <;> rfl) | (simp [*, errW_none, errW_some] <;> rfl), hx_ HB⟩
   ·replace c27 := Bool.eq_false_iff.mpr c27
    subst c27
    have H1 : (ferruleref17_May.l0 kj1 0 a0_0 a0_1 a0_2 a0_3 a0_4 a0_5 a0_6 a0_7 l0_8 a0_9) = some r := by rw [if_neg (show ¬ (false = true) by decide)] at H; exact H
    clear H
    have H := H1
    clear H1
    have H' := am_ H
    clear H
    go_wp2
    go_loopg [3] kj1 (fun kq v3 w' => ∃ (x3_2 : Int), v3 = .int .i64 x3_2 ∧ Aside0 (ferruleref17_May.l0 kq x3_2 a0_0 a0_1 a0_2 a0_3 a0_4 a0_5 a0_6 a0_7 l0_8 a0_9 = some r) ∧ Aside0 (kq ≤ kj1) ∧ Aside0 (w'.heap[gb398]? = some (.cells #[.int .i64 a0_0, .int .u64 a0_1, .int .u64 a0_2, .int .u64 a0_3, .int .u64 a0_4, .int .u64 a0_5, .int .u64 a0_6, .bool a0_7, (.slice A0_8 l0_8.length c0_8), .string a0_9] 57 (0, 0))) ∧ Aside0 (Below w.heap.size w w'))
    case atStart => exact ⟨(0), (by first | rfl | (simp; done) | (simp [*]; done)), H', ⟨Nat.le_refl _⟩, ⟨bx_ BK398⟩, ⟨hx_ HB⟩⟩
    case round =>
     clear H'
     try clear c1
     try clear c2
     try clear p2
     try clear c3
     try clear c4
     try clear c4b0
     try clear c6
     try clear c6b0
     try clear c8
     try clear c8b0
     try clear c10
     try clear c10b0
     try clear c12
     try clear c12b0
     try clear c14
     try clear c14b0
     try clear c16
     try clear c16b0
     try clear c18
     try clear c18b0
     try clear c20
     try clear c20b0
     try clear c22
     try clear c22b0
     try clear c24
     try clear c24b0
     try clear c24b1
     try clear c27
     try clear hcz11_0
     try clear hcz11_1
     try clear hcz11_2
     try clear hcz11_3
     try clear hcz11_4
     try clear hcz11_5
     try clear hcz11_6
     try clear hcz11_7
     try clear hcz11_8
     try clear hcz11_9
     try clear hcz13_0
     try clear hcz13_1
     try clear hcz13_2
     try clear hcz13_3
     try clear hcz13_4
     try clear hcz13_5
     try clear hcz13_6
     try clear hcz13_7
     try clear hcz13_8
     try clear hcz13_9
     try clear hcz15_0
     try clear hcz15_1
     try clear hcz15_2
     try clear hcz15_3
     try clear hcz15_4
     try clear hcz15_5
     try clear hcz15_6
     try clear hcz15_7
     try clear hcz15_8
     try clear hcz15_9
     try clear hcz17_0
     try clear hcz17_1
     try clear hcz17_2
     try clear hcz17_3
     try clear hcz17_4
     try clear hcz17_5
     try clear hcz17_6
     try clear hcz17_7
     try clear hcz17_8
     try clear hcz17_9
     try clear hcz19_0
     try clear hcz19_1
     try clear hcz19_2
     try clear hcz19_3
     try clear hcz19_4
     try clear hcz19_5
     try clear hcz19_6
     try clear hcz19_7
     try clear hcz19_8
     try clear hcz19_9
     try clear hcz21_0
     try clear hcz21_1
     try clear hcz21_2
     try clear hcz21_3
     try clear hcz21_4
     try clear hcz21_5
     try clear hcz21_6
     try clear hcz21_7
     try clear hcz21_8
     try clear hcz21_9
     try clear hcz23_0
     try clear hcz23_1
     try clear hcz23_2
     try clear hcz23_3
     try clear hcz23_4
     try clear hcz23_5
     try clear hcz23_6
     try clear hcz23_7
     try clear hcz23_8
     try clear hcz23_9
     try clear hcz25_0
     try clear hcz25_1
     try clear hcz25_2
     try clear hcz25_3
     try clear hcz25_4
     try clear hcz25_5
     try clear hcz25_6
     try clear hcz25_7
     try clear hcz25_8
     try clear hcz25_9
     try clear hcz26_0
     try clear hcz26_1
     try clear hcz26_2
     try clear hcz26_3
     try clear hcz26_4
     try clear hcz26_5
     try clear hcz26_6
     try clear hcz26_7
     try clear hcz26_8
     try clear hcz26_9
     try clear hcz5_0
     try clear hcz5_1
     try clear hcz5_2
     try clear hcz5_3
     try clear hcz5_4
     try clear hcz5_5
     try clear hcz5_6
     try clear hcz5_7
     try clear hcz5_8
     try clear hcz5_9
     try clear hcz7_0
     try clear hcz7_1
     try clear hcz7_2
     try clear hcz7_3
     try clear hcz7_4
     try clear hcz7_5
     try clear hcz7_6
     try clear hcz7_7
     try clear hcz7_8
     try clear hcz7_9
     try clear hcz9_0
     try clear hcz9_1
     try clear hcz9_2
     try clear hcz9_3
     try clear hcz9_4
     try clear hcz9_5
     try clear hcz9_6
     try clear hcz9_7
     try clear hcz9_8
     try clear hcz9_9
     try clear hfz11_0
     try clear hfz11_1
     try clear hfz11_2
     try clear hfz11_3
     try clear hfz11_4
     try clear hfz11_5
     try clear hfz11_6
     try clear hfz11_7
     try clear hfz11_8
     try clear hfz11_9
     try clear hfz13_0
     try clear hfz13_1
     try clear hfz13_2
     try clear hfz13_3
     try clear hfz13_4
     try clear hfz13_5
     try clear hfz13_6
     try clear hfz13_7
     try clear hfz13_8
     try clear hfz13_9
     try clear hfz15_0
     try clear hfz15_1
     try clear hfz15_2
     try clear hfz15_3
     try clear hfz15_4
     try clear hfz15_5
     try clear hfz15_6
     try clear hfz15_7
     try clear hfz15_8
     try clear hfz15_9
     try clear hfz17_0
     try clear hfz17_1
     try clear hfz17_2
     try clear hfz17_3
     try clear hfz17_4
     try clear hfz17_5
     try clear hfz17_6
     try clear hfz17_7
     try clear hfz17_8
     try clear hfz17_9
     try clear hfz19_0
     try clear hfz19_1
     try clear hfz19_2
     try clear hfz19_3
     try clear hfz19_4
     try clear hfz19_5
     try clear hfz19_6
     try clear hfz19_7
     try clear hfz19_8
     try clear hfz19_9
     try clear hfz21_0
     try clear hfz21_1
     try clear hfz21_2
     try clear hfz21_3
     try clear hfz21_4
     try clear hfz21_5
     try clear hfz21_6
     try clear hfz21_7
     try clear hfz21_8
     try clear hfz21_9
     try clear hfz23_0
     try clear hfz23_1
     try clear hfz23_2
     try clear hfz23_3
     try clear hfz23_4
     try clear hfz23_5
     try clear hfz23_6
     try clear hfz23_7
     try clear hfz23_8
     try clear hfz23_9
     try clear hfz25_0
     try clear hfz25_1
     try clear hfz25_2
     try clear hfz25_3
     try clear hfz25_4
     try clear hfz25_5
     try clear hfz25_6
     try clear hfz25_7
     try clear hfz25_8
     try clear hfz25_9
     try clear hfz26_0
     try clear hfz26_1
     try clear hfz26_2
     try clear hfz26_3
     try clear hfz26_4
     try clear hfz26_5
     try clear hfz26_6
     try clear hfz26_7
     try clear hfz26_8
     try clear hfz26_9
     try clear hfz5_0
     try clear hfz5_1
     try clear hfz5_2
     try clear hfz5_3
     try clear hfz5_4
     try clear hfz5_5
     try clear hfz5_6
     try clear hfz5_7
     try clear hfz5_8
     try clear hfz5_9
     try clear hfz7_0
     try clear hfz7_1
     try clear hfz7_2
     try clear hfz7_3
     try clear hfz7_4
     try clear hfz7_5
     try clear hfz7_6
     try clear hfz7_7
     try clear hfz7_8
     try clear hfz7_9
     try clear hfz9_0
     try clear hfz9_1
     try clear hfz9_2
     try clear hfz9_3
     try clear hfz9_4
     try clear hfz9_5
     try clear hfz9_6
     try clear hfz9_7
     try clear hfz9_8
     try clear hfz9_9
     try clear p2
     obtain ⟨x3_2, rfl, HA, HK2, BK398, HB⟩ := hrel
     cases gk with
     | zero => exact absurd HA.out (by simp [ferruleref17_May.l0])
     | succ k2 =>
      have H := HA.out
      clear HA
      simp only [ferruleref17_May.l0] at H
      by_cases c28 : x3_2 < (l0_8.length : Int)
      ·rw [if_pos c28] at H
       have c28b0 : decide (x3_2 < (l0_8.length : Int)) = true := decide_eq_true c28
       clear c28
       by_cases c29 : 0 ≤ x3_2
       ·rw [if_pos c29] at H
        have c29b0 : decide (0 ≤ x3_2) = true := decide_eq_true c29
        clear c29
        by_cases c30 : ((rd_T75 l0_8 x3_2).f0) > 4611686018427387903
        ·rw [if_pos c30] at H
         have c30b0 : decide (4611686018427387903 < ((rd_T75 l0_8 x3_2).f0)) = true := decide_eq_true c30
         clear c30
         obtain rfl := Option.some.inj H
         have hcz31_0 : wr.cell? ⟨gb398, 0, none⟩ = some (.int .i64 a0_0) := (blk_cell BK398.out 0).trans rfl
         have hcz31_1 : wr.cell? ⟨gb398, 1, none⟩ = some (.int .u64 a0_1) := (blk_cell BK398.out 1).trans rfl
         have hcz31_2 : wr.cell? ⟨gb398, 2, none⟩ = some (.int .u64 a0_2) := (blk_cell BK398.out 2).trans rfl
         have hcz31_3 : wr.cell? ⟨gb398, 3, none⟩ = some (.int .u64 a0_3) := (blk_cell BK398.out 3).trans rfl
         have hcz31_4 : wr.cell? ⟨gb398, 4, none⟩ = some (.int .u64 a0_4) := (blk_cell BK398.out 4).trans rfl
         have hcz31_5 : wr.cell? ⟨gb398, 5, none⟩ = some (.int .u64 a0_5) := (blk_cell BK398.out 5).trans rfl
         have hcz31_6 : wr.cell? ⟨gb398, 6, none⟩ = some (.int .u64 a0_6) := (blk_cell BK398.out 6).trans rfl
         have hcz31_7 : wr.cell? ⟨gb398, 7, none⟩ = some (.bool a0_7) := (blk_cell BK398.out 7).trans rfl
         have hcz31_8 : wr.cell? ⟨gb398, 8, none⟩ = some (.slice A0_8 l0_8.length c0_8) := (blk_cell BK398.out 8).trans rfl
         have hcz31_9 : wr.cell? ⟨gb398, 9, none⟩ = some (.string a0_9) := (blk_cell BK398.out 9).trans rfl
         have hfz31_0 := blk_frozen BK398.out 0
         have hfz31_1 := blk_frozen BK398.out 1
         have hfz31_2 := blk_frozen BK398.out 2
         have hfz31_3 := blk_frozen BK398.out 3
         have hfz31_4 := blk_frozen BK398.out 4
         have hfz31_5 := blk_frozen BK398.out 5
         have hfz31_6 := blk_frozen BK398.out 6
         have hfz31_7 := blk_frozen BK398.out 7
         have hfz31_8 := blk_frozen BK398.out 8
         have hfz31_9 := blk_frozen BK398.out 9
         have p399 : 0 ≤ (x3_2 : Int) := of_decide_eq_true (by first | (with_reducible assumption) | assumption)
         have q399 : x3_2 < (l0_8.length : Int) := of_decide_eq_true (by first | (with_reducible assumption) | assumption)
         obtain ⟨ad399, e399, hx399_0, hx399_1⟩ := at_T75 HR0_8.out x3_2 p399 q399
         cases e399
         replace hx399_0 := (HB.out.cell (World.block_lt_of_cell? w _ hx399_0)).trans hx399_0
         replace hx399_1 := (HB.out.cell (World.block_lt_of_cell? w _ hx399_1)).trans hx399_1
         replace p399 := eq_true p399
         replace q399 := eq_true q399
         go_wp2
         go_ret
         exact ⟨by first | rfl | (simp [errW_none, errW_some] <;> rfl) | (simp [*, errW_none, errW_some] <;> rfl), hx_ HB⟩
        ·rw [if_neg c30] at H
         have c30b0 : decide (4611686018427387903 < ((rd_T75 l0_8 x3_2).f0)) = false := decide_eq_false c30
         clear c30
         by_cases c32 : (((rd_T75 l0_8 x3_2).f1).size : Int) > 4096
         ·rw [if_pos c32] at H
          have c32b0 : decide (4096 < (((rd_T75 l0_8 x3_2).f1).size : Int)) = true := decide_eq_true c32
          have c32b1 : decide (4096 < ((rd_T75 l0_8 x3_2).f1).size) = true := decide_eq_true (by omega)
          clear c32
          obtain rfl := Option.some.inj H
          have hcz33_0 : wr.cell? ⟨gb398, 0, none⟩ = some (.int .i64 a0_0) := (blk_cell BK398.out 0).trans rfl
          have hcz33_1 : wr.cell? ⟨gb398, 1, none⟩ = some (.int .u64 a0_1) := (blk_cell BK398.out 1).trans rfl
          have hcz33_2 : wr.cell? ⟨gb398, 2, none⟩ = some (.int .u64 a0_2) := (blk_cell BK398.out 2).trans rfl
          have hcz33_3 : wr.cell? ⟨gb398, 3, none⟩ = some (.int .u64 a0_3) := (blk_cell BK398.out 3).trans rfl
          have hcz33_4 : wr.cell? ⟨gb398, 4, none⟩ = some (.int .u64 a0_4) := (blk_cell BK398.out 4).trans rfl
          have hcz33_5 : wr.cell? ⟨gb398, 5, none⟩ = some (.int .u64 a0_5) := (blk_cell BK398.out 5).trans rfl
          have hcz33_6 : wr.cell? ⟨gb398, 6, none⟩ = some (.int .u64 a0_6) := (blk_cell BK398.out 6).trans rfl
          have hcz33_7 : wr.cell? ⟨gb398, 7, none⟩ = some (.bool a0_7) := (blk_cell BK398.out 7).trans rfl
          have hcz33_8 : wr.cell? ⟨gb398, 8, none⟩ = some (.slice A0_8 l0_8.length c0_8) := (blk_cell BK398.out 8).trans rfl
          have hcz33_9 : wr.cell? ⟨gb398, 9, none⟩ = some (.string a0_9) := (blk_cell BK398.out 9).trans rfl
          have hfz33_0 := blk_frozen BK398.out 0
          have hfz33_1 := blk_frozen BK398.out 1
          have hfz33_2 := blk_frozen BK398.out 2
          have hfz33_3 := blk_frozen BK398.out 3
          have hfz33_4 := blk_frozen BK398.out 4
          have hfz33_5 := blk_frozen BK398.out 5
          have hfz33_6 := blk_frozen BK398.out 6
          have hfz33_7 := blk_frozen BK398.out 7
          have hfz33_8 := blk_frozen BK398.out 8
          have hfz33_9 := blk_frozen BK398.out 9
          have p399 : 0 ≤ (x3_2 : Int) := of_decide_eq_true (by first | (with_reducible assumption) | assumption)
          have q399 : x3_2 < (l0_8.length : Int) := of_decide_eq_true (by first | (with_reducible assumption) | assumption)
          obtain ⟨ad399, e399, hx399_0, hx399_1⟩ := at_T75 HR0_8.out x3_2 p399 q399
          cases e399
          replace hx399_0 := (HB.out.cell (World.block_lt_of_cell? w _ hx399_0)).trans hx399_0
          replace hx399_1 := (HB.out.cell (World.block_lt_of_cell? w _ hx399_1)).trans hx399_1
          replace p399 := eq_true p399
          replace q399 := eq_true q399
          have p400 : 0 ≤ (x3_2 : Int) := of_decide_eq_true (by first | (with_reducible assumption) | assumption)
          have q400 : x3_2 < (l0_8.length : Int) := of_decide_eq_true (by first | (with_reducible assumption) | assumption)
          obtain ⟨ad400, e400, hx400_0, hx400_1⟩ := at_T75 HR0_8.out x3_2 p400 q400
          obtain rfl : ad399 = ad400 := (by injection e400)
          replace hx400_0 := (HB.out.cell (World.block_lt_of_cell? w _ hx400_0)).trans hx400_0
          replace hx400_1 := (HB.out.cell (World.block_lt_of_cell? w _ hx400_1)).trans hx400_1
          replace p400 := eq_true p400
          replace q400 := eq_true q400
          go_wp2
          go_ret
          exact ⟨by first | rfl | (simp [errW_none, errW_some] <;> rfl) | (simp [*, errW_none, errW_some] <;> rfl), hx_ HB⟩
         ·rw [if_neg c32] at H
          have c32b0 : decide (4096 < (((rd_T75 l0_8 x3_2).f1).size : Int)) = false := decide_eq_false c32
          have c32b1 : decide (4096 < ((rd_T75 l0_8 x3_2).f1).size) = false := decide_eq_false (by omega)
          clear c32
          have H' := am_ H
          clear H
          have hcz34_0 : wr.cell? ⟨gb398, 0, none⟩ = some (.int .i64 a0_0) := (blk_cell BK398.out 0).trans rfl
          have hcz34_1 : wr.cell? ⟨gb398, 1, none⟩ = some (.int .u64 a0_1) := (blk_cell BK398.out 1).trans rfl
          have hcz34_2 : wr.cell? ⟨gb398, 2, none⟩ = some (.int .u64 a0_2) := (blk_cell BK398.out 2).trans rfl
          have hcz34_3 : wr.cell? ⟨gb398, 3, none⟩ = some (.int .u64 a0_3) := (blk_cell BK398.out 3).trans rfl
          have hcz34_4 : wr.cell? ⟨gb398, 4, none⟩ = some (.int .u64 a0_4) := (blk_cell BK398.out 4).trans rfl
          have hcz34_5 : wr.cell? ⟨gb398, 5, none⟩ = some (.int .u64 a0_5) := (blk_cell BK398.out 5).trans rfl
          have hcz34_6 : wr.cell? ⟨gb398, 6, none⟩ = some (.int .u64 a0_6) := (blk_cell BK398.out 6).trans rfl
          have hcz34_7 : wr.cell? ⟨gb398, 7, none⟩ = some (.bool a0_7) := (blk_cell BK398.out 7).trans rfl
          have hcz34_8 : wr.cell? ⟨gb398, 8, none⟩ = some (.slice A0_8 l0_8.length c0_8) := (blk_cell BK398.out 8).trans rfl
          have hcz34_9 : wr.cell? ⟨gb398, 9, none⟩ = some (.string a0_9) := (blk_cell BK398.out 9).trans rfl
          have hfz34_0 := blk_frozen BK398.out 0
          have hfz34_1 := blk_frozen BK398.out 1
          have hfz34_2 := blk_frozen BK398.out 2
          have hfz34_3 := blk_frozen BK398.out 3
          have hfz34_4 := blk_frozen BK398.out 4
          have hfz34_5 := blk_frozen BK398.out 5
          have hfz34_6 := blk_frozen BK398.out 6
          have hfz34_7 := blk_frozen BK398.out 7
          have hfz34_8 := blk_frozen BK398.out 8
          have hfz34_9 := blk_frozen BK398.out 9
          have p399 : 0 ≤ (x3_2 : Int) := of_decide_eq_true (by first | (with_reducible assumption) | assumption)
          have q399 : x3_2 < (l0_8.length : Int) := of_decide_eq_true (by first | (with_reducible assumption) | assumption)
          obtain ⟨ad399, e399, hx399_0, hx399_1⟩ := at_T75 HR0_8.out x3_2 p399 q399
          cases e399
          replace hx399_0 := (HB.out.cell (World.block_lt_of_cell? w _ hx399_0)).trans hx399_0
          replace hx399_1 := (HB.out.cell (World.block_lt_of_cell? w _ hx399_1)).trans hx399_1
          replace p399 := eq_true p399
          replace q399 := eq_true q399
          have p400 : 0 ≤ (x3_2 : Int) := of_decide_eq_true (by first | (with_reducible assumption) | assumption)
          have q400 : x3_2 < (l0_8.length : Int) := of_decide_eq_true (by first | (with_reducible assumption) | assumption)
          obtain ⟨ad400, e400, hx400_0, hx400_1⟩ := at_T75 HR0_8.out x3_2 p400 q400
          obtain rfl : ad399 = ad400 := (by injection e400)
          replace hx400_0 := (HB.out.cell (World.block_lt_of_cell? w _ hx400_0)).trans hx400_0
          replace hx400_1 := (HB.out.cell (World.block_lt_of_cell? w _ hx400_1)).trans hx400_1
          replace p400 := eq_true p400
          replace q400 := eq_true q400
          go_wp2
          go_roundg k2
          case measure => have := HJ1.out; have := HK2.out; omega
          case rel => exact ⟨(wrap64 (x3_2 + 1)), (by first | rfl | (simp; done) | (simp [*]; done)), H', ⟨by have := HJ1.out; have := HK2.out; omega⟩, ⟨bx_ BK398⟩, ⟨hx_ HB⟩⟩
       ·rw [if_neg c29] at H
        exact absurd H (by simp)
      ·rw [if_neg c28] at H
       have c28b0 : decide (x3_2 < (l0_8.length : Int)) = false := decide_eq_false c28
       clear c28
       have HC35 := am_ H
       clear H
       have hcz36_0 : wr.cell? ⟨gb398, 0, none⟩ = some (.int .i64 a0_0) := (blk_cell BK398.out 0).trans rfl
       have hcz36_1 : wr.cell? ⟨gb398, 1, none⟩ = some (.int .u64 a0_1) := (blk_cell BK398.out 1).trans rfl
       have hcz36_2 : wr.cell? ⟨gb398, 2, none⟩ = some (.int .u64 a0_2) := (blk_cell BK398.out 2).trans rfl
       have hcz36_3 : wr.cell? ⟨gb398, 3, none⟩ = some (.int .u64 a0_3) := (blk_cell BK398.out 3).trans rfl
       have hcz36_4 : wr.cell? ⟨gb398, 4, none⟩ = some (.int .u64 a0_4) := (blk_cell BK398.out 4).trans rfl
       have hcz36_5 : wr.cell? ⟨gb398, 5, none⟩ = some (.int .u64 a0_5) := (blk_cell BK398.out 5).trans rfl
       have hcz36_6 : wr.cell? ⟨gb398, 6, none⟩ = some (.int .u64 a0_6) := (blk_cell BK398.out 6).trans rfl
       have hcz36_7 : wr.cell? ⟨gb398, 7, none⟩ = some (.bool a0_7) := (blk_cell BK398.out 7).trans rfl
       have hcz36_8 : wr.cell? ⟨gb398, 8, none⟩ = some (.slice A0_8 l0_8.length c0_8) := (blk_cell BK398.out 8).trans rfl
       have hcz36_9 : wr.cell? ⟨gb398, 9, none⟩ = some (.string a0_9) := (blk_cell BK398.out 9).trans rfl
       have hfz36_0 := blk_frozen BK398.out 0
       have hfz36_1 := blk_frozen BK398.out 1
       have hfz36_2 := blk_frozen BK398.out 2
       have hfz36_3 := blk_frozen BK398.out 3
       have hfz36_4 := blk_frozen BK398.out 4
       have hfz36_5 := blk_frozen BK398.out 5
       have hfz36_6 := blk_frozen BK398.out 6
       have hfz36_7 := blk_frozen BK398.out 7
       have hfz36_8 := blk_frozen BK398.out 8
       have hfz36_9 := blk_frozen BK398.out 9
       go_upto_region 8 with (fail)
       go_cut [112] (fun v112 wc => ∃ (kq : Nat) (x112_34 : Bool), v112 = .bool x112_34 ∧ Aside0 (ferruleref17_May.j2 kq x112_34 a0_0 a0_1 a0_2 a0_3 a0_4 a0_5 a0_6 a0_7 l0_8 a0_9 = some r) ∧ Aside0 (kq ≤ k2) ∧ Aside0 (wc.heap[gb398]? = some (.cells #[.int .i64 a0_0, .int .u64 a0_1, .int .u64 a0_2, .int .u64 a0_3, .int .u64 a0_4, .int .u64 a0_5, .int .u64 a0_6, .bool a0_7, (.slice A0_8 l0_8.length c0_8), .string a0_9] 57 (0, 0))) ∧ Aside0 (Below w.heap.size w wc))
       case first =>
        have H := HC35.out
        clear HC35
        by_cases c37 : a0_0 = 5
        ·rw [if_pos c37] at H
         have c37b0 : (a0_0 == 5) = true := beq_iff_eq.mpr c37
         have c37b1 : (a0_0 != 5) = false := bne_eq_false_iff_eq.mpr c37
         clear c37
         (first | rw [c37b0] | (simp only [i64_w, i32_w]; rw [c37b0]) | skip)
         by_cases c38 : a0_0 = 6
         ·rw [if_pos c38] at H
          have c38b0 : (a0_0 == 6) = true := beq_iff_eq.mpr c38
          have c38b1 : (a0_0 != 6) = false := bne_eq_false_iff_eq.mpr c38
          clear c38
          have H' := am_ H
          clear H
          have hcz39_0 : wr.cell? ⟨gb398, 0, none⟩ = some (.int .i64 a0_0) := (blk_cell BK398.out 0).trans rfl
          have hcz39_1 : wr.cell? ⟨gb398, 1, none⟩ = some (.int .u64 a0_1) := (blk_cell BK398.out 1).trans rfl
          have hcz39_2 : wr.cell? ⟨gb398, 2, none⟩ = some (.int .u64 a0_2) := (blk_cell BK398.out 2).trans rfl
          have hcz39_3 : wr.cell? ⟨gb398, 3, none⟩ = some (.int .u64 a0_3) := (blk_cell BK398.out 3).trans rfl
          have hcz39_4 : wr.cell? ⟨gb398, 4, none⟩ = some (.int .u64 a0_4) := (blk_cell BK398.out 4).trans rfl
          have hcz39_5 : wr.cell? ⟨gb398, 5, none⟩ = some (.int .u64 a0_5) := (blk_cell BK398.out 5).trans rfl
          have hcz39_6 : wr.cell? ⟨gb398, 6, none⟩ = some (.int .u64 a0_6) := (blk_cell BK398.out 6).trans rfl
          have hcz39_7 : wr.cell? ⟨gb398, 7, none⟩ = some (.bool a0_7) := (blk_cell BK398.out 7).trans rfl
          have hcz39_8 : wr.cell? ⟨gb398, 8, none⟩ = some (.slice A0_8 l0_8.length c0_8) := (blk_cell BK398.out 8).trans rfl
          have hcz39_9 : wr.cell? ⟨gb398, 9, none⟩ = some (.string a0_9) := (blk_cell BK398.out 9).trans rfl
          have hfz39_0 := blk_frozen BK398.out 0
          have hfz39_1 := blk_frozen BK398.out 1
          have hfz39_2 := blk_frozen BK398.out 2
          have hfz39_3 := blk_frozen BK398.out 3
          have hfz39_4 := blk_frozen BK398.out 4
          have hfz39_5 := blk_frozen BK398.out 5
          have hfz39_6 := blk_frozen BK398.out 6
          have hfz39_7 := blk_frozen BK398.out 7
          have hfz39_8 := blk_frozen BK398.out 8
          have hfz39_9 := blk_frozen BK398.out 9
          go_wp2
          go_meet
          case rel => exact ⟨_, (false), (by first | rfl | (simp; done) | (simp [*]; done)), H', ⟨by have := HJ1.out; have := HK2.out; first | omega | exact Nat.le_refl _⟩, ⟨bx_ BK398⟩, ⟨hx_ HB⟩⟩
         ·rw [if_neg c38] at H
          have c38b0 : (a0_0 == 6) = false := beq_eq_false_iff_ne.mpr c38
          have c38b1 : (a0_0 != 6) = true := bne_iff_ne.mpr c38
          have H' := am_ H
          clear H
          have hcz40_0 : wr.cell? ⟨gb398, 0, none⟩ = some (.int .i64 a0_0) := (blk_cell BK398.out 0).trans rfl
          have hcz40_1 : wr.cell? ⟨gb398, 1, none⟩ = some (.int .u64 a0_1) := (blk_cell BK398.out 1).trans rfl
          have hcz40_2 : wr.cell? ⟨gb398, 2, none⟩ = some (.int .u64 a0_2) := (blk_cell BK398.out 2).trans rfl
          have hcz40_3 : wr.cell? ⟨gb398, 3, none⟩ = some (.int .u64 a0_3) := (blk_cell BK398.out 3).trans rfl
          have hcz40_4 : wr.cell? ⟨gb398, 4, none⟩ = some (.int .u64 a0_4) := (blk_cell BK398.out 4).trans rfl
          have hcz40_5 : wr.cell? ⟨gb398, 5, none⟩ = some (.int .u64 a0_5) := (blk_cell BK398.out 5).trans rfl
          have hcz40_6 : wr.cell? ⟨gb398, 6, none⟩ = some (.int .u64 a0_6) := (blk_cell BK398.out 6).trans rfl
          have hcz40_7 : wr.cell? ⟨gb398, 7, none⟩ = some (.bool a0_7) := (blk_cell BK398.out 7).trans rfl
          have hcz40_8 : wr.cell? ⟨gb398, 8, none⟩ = some (.slice A0_8 l0_8.length c0_8) := (blk_cell BK398.out 8).trans rfl
          have hcz40_9 : wr.cell? ⟨gb398, 9, none⟩ = some (.string a0_9) := (blk_cell BK398.out 9).trans rfl
          have hfz40_0 := blk_frozen BK398.out 0
          have hfz40_1 := blk_frozen BK398.out 1
          have hfz40_2 := blk_frozen BK398.out 2
          have hfz40_3 := blk_frozen BK398.out 3
          have hfz40_4 := blk_frozen BK398.out 4
          have hfz40_5 := blk_frozen BK398.out 5
          have hfz40_6 := blk_frozen BK398.out 6
          have hfz40_7 := blk_frozen BK398.out 7
          have hfz40_8 := blk_frozen BK398.out 8
          have hfz40_9 := blk_frozen BK398.out 9
          go_wp2
          go_meet
          case rel => exact ⟨_, (decide ((a0_9.size : Int) > 0)), (by first | rfl | (simp; done) | (simp [*]; done)), H', ⟨by have := HJ1.out; have := HK2.out; first | omega | exact Nat.le_refl _⟩, ⟨bx_ BK398⟩, ⟨hx_ HB⟩⟩
        ·rw [if_neg c37] at H
         have c37b0 : (a0_0 == 5) = false := beq_eq_false_iff_ne.mpr c37
         have c37b1 : (a0_0 != 5) = true := bne_iff_ne.mpr c37
         (first | rw [c37b0] | (simp only [i64_w, i32_w]; rw [c37b0]) | skip)
         by_cases c41 : a0_6 > 0
         ·rw [if_pos c41] at H
          have c41b0 : decide (0 < a0_6) = true := decide_eq_true c41
          clear c41
          have H' := am_ H
          clear H
          have hcz42_0 : wr.cell? ⟨gb398, 0, none⟩ = some (.int .i64 a0_0) := (blk_cell BK398.out 0).trans rfl
          have hcz42_1 : wr.cell? ⟨gb398, 1, none⟩ = some (.int .u64 a0_1) := (blk_cell BK398.out 1).trans rfl
          have hcz42_2 : wr.cell? ⟨gb398, 2, none⟩ = some (.int .u64 a0_2) := (blk_cell BK398.out 2).trans rfl
          have hcz42_3 : wr.cell? ⟨gb398, 3, none⟩ = some (.int .u64 a0_3) := (blk_cell BK398.out 3).trans rfl
          have hcz42_4 : wr.cell? ⟨gb398, 4, none⟩ = some (.int .u64 a0_4) := (blk_cell BK398.out 4).trans rfl
          have hcz42_5 : wr.cell? ⟨gb398, 5, none⟩ = some (.int .u64 a0_5) := (blk_cell BK398.out 5).trans rfl
          have hcz42_6 : wr.cell? ⟨gb398, 6, none⟩ = some (.int .u64 a0_6) := (blk_cell BK398.out 6).trans rfl
          have hcz42_7 : wr.cell? ⟨gb398, 7, none⟩ = some (.bool a0_7) := (blk_cell BK398.out 7).trans rfl
          have hcz42_8 : wr.cell? ⟨gb398, 8, none⟩ = some (.slice A0_8 l0_8.length c0_8) := (blk_cell BK398.out 8).trans rfl
          have hcz42_9 : wr.cell? ⟨gb398, 9, none⟩ = some (.string a0_9) := (blk_cell BK398.out 9).trans rfl
          have hfz42_0 := blk_frozen BK398.out 0
          have hfz42_1 := blk_frozen BK398.out 1
          have hfz42_2 := blk_frozen BK398.out 2
          have hfz42_3 := blk_frozen BK398.out 3
          have hfz42_4 := blk_frozen BK398.out 4
          have hfz42_5 := blk_frozen BK398.out 5
          have hfz42_6 := blk_frozen BK398.out 6
          have hfz42_7 := blk_frozen BK398.out 7
          have hfz42_8 := blk_frozen BK398.out 8
          have hfz42_9 := blk_frozen BK398.out 9
          go_wp2
          go_meet
          case rel => exact ⟨_, (true), (by first | rfl | (simp; done) | (simp [*]; done)), H', ⟨by have := HJ1.out; have := HK2.out; first | omega | exact Nat.le_refl _⟩, ⟨bx_ BK398⟩, ⟨hx_ HB⟩⟩
         ·rw [if_neg c41] at H
          have c41b0 : decide (0 < a0_6) = false := decide_eq_false c41
          clear c41
          by_cases c43 : (l0_8.length : Int) > 0
          ·rw [if_pos c43] at H
           have c43b0 : decide (0 < (l0_8.length : Int)) = true := decide_eq_true c43
           have c43b1 : decide (0 < l0_8.length) = true := decide_eq_true (by omega)
           clear c43
           have H' := am_ H
           clear H
           have hcz44_0 : wr.cell? ⟨gb398, 0, none⟩ = some (.int .i64 a0_0) := (blk_cell BK398.out 0).trans rfl
           have hcz44_1 : wr.cell? ⟨gb398, 1, none⟩ = some (.int .u64 a0_1) := (blk_cell BK398.out 1).trans rfl
           have hcz44_2 : wr.cell? ⟨gb398, 2, none⟩ = some (.int .u64 a0_2) := (blk_cell BK398.out 2).trans rfl
           have hcz44_3 : wr.cell? ⟨gb398, 3, none⟩ = some (.int .u64 a0_3) := (blk_cell BK398.out 3).trans rfl
           have hcz44_4 : wr.cell? ⟨gb398, 4, none⟩ = some (.int .u64 a0_4) := (blk_cell BK398.out 4).trans rfl
           have hcz44_5 : wr.cell? ⟨gb398, 5, none⟩ = some (.int .u64 a0_5) := (blk_cell BK398.out 5).trans rfl
           have hcz44_6 : wr.cell? ⟨gb398, 6, none⟩ = some (.int .u64 a0_6) := (blk_cell BK398.out 6).trans rfl
           have hcz44_7 : wr.cell? ⟨gb398, 7, none⟩ = some (.bool a0_7) := (blk_cell BK398.out 7).trans rfl
           have hcz44_8 : wr.cell? ⟨gb398, 8, none⟩ = some (.slice A0_8 l0_8.length c0_8) := (blk_cell BK398.out 8).trans rfl
           have hcz44_9 : wr.cell? ⟨gb398, 9, none⟩ = some (.string a0_9) := (blk_cell BK398.out 9).trans rfl
           have hfz44_0 := blk_frozen BK398.out 0
           have hfz44_1 := blk_frozen BK398.out 1
           have hfz44_2 := blk_frozen BK398.out 2
           have hfz44_3 := blk_frozen BK398.out 3
           have hfz44_4 := blk_frozen BK398.out 4
           have hfz44_5 := blk_frozen BK398.out 5
           have hfz44_6 := blk_frozen BK398.out 6
           have hfz44_7 := blk_frozen BK398.out 7
           have hfz44_8 := blk_frozen BK398.out 8
           have hfz44_9 := blk_frozen BK398.out 9
           go_wp2
           go_meet
           case rel => exact ⟨_, (true), (by first | rfl | (simp; done) | (simp [*]; done)), H', ⟨by have := HJ1.out; have := HK2.out; first | omega | exact Nat.le_refl _⟩, ⟨bx_ BK398⟩, ⟨hx_ HB⟩⟩
          ·rw [if_neg c43] at H
           have c43b0 : decide (0 < (l0_8.length : Int)) = false := decide_eq_false c43
           have c43b1 : decide (0 < l0_8.length) = false := decide_eq_false (by omega)
           clear c43
           by_cases c45 : a0_0 = 6
           ·rw [if_pos c45] at H
            have c45b0 : (a0_0 == 6) = true := beq_iff_eq.mpr c45
            have c45b1 : (a0_0 != 6) = false := bne_eq_false_iff_eq.mpr c45
            clear c45
            have H' := am_ H
            clear H
            have hcz46_0 : wr.cell? ⟨gb398, 0, none⟩ = some (.int .i64 a0_0) := (blk_cell BK398.out 0).trans rfl
            have hcz46_1 : wr.cell? ⟨gb398, 1, none⟩ = some (.int .u64 a0_1) := (blk_cell BK398.out 1).trans rfl
            have hcz46_2 : wr.cell? ⟨gb398, 2, none⟩ = some (.int .u64 a0_2) := (blk_cell BK398.out 2).trans rfl
            have hcz46_3 : wr.cell? ⟨gb398, 3, none⟩ = some (.int .u64 a0_3) := (blk_cell BK398.out 3).trans rfl
            have hcz46_4 : wr.cell? ⟨gb398, 4, none⟩ = some (.int .u64 a0_4) := (blk_cell BK398.out 4).trans rfl
            have hcz46_5 : wr.cell? ⟨gb398, 5, none⟩ = some (.int .u64 a0_5) := (blk_cell BK398.out 5).trans rfl
            have hcz46_6 : wr.cell? ⟨gb398, 6, none⟩ = some (.int .u64 a0_6) := (blk_cell BK398.out 6).trans rfl
            have hcz46_7 : wr.cell? ⟨gb398, 7, none⟩ = some (.bool a0_7) := (blk_cell BK398.out 7).trans rfl
            have hcz46_8 : wr.cell? ⟨gb398, 8, none⟩ = some (.slice A0_8 l0_8.length c0_8) := (blk_cell BK398.out 8).trans rfl
            have hcz46_9 : wr.cell? ⟨gb398, 9, none⟩ = some (.string a0_9) := (blk_cell BK398.out 9).trans rfl
            have hfz46_0 := blk_frozen BK398.out 0
            have hfz46_1 := blk_frozen BK398.out 1
            have hfz46_2 := blk_frozen BK398.out 2
            have hfz46_3 := blk_frozen BK398.out 3
            have hfz46_4 := blk_frozen BK398.out 4
            have hfz46_5 := blk_frozen BK398.out 5
            have hfz46_6 := blk_frozen BK398.out 6
            have hfz46_7 := blk_frozen BK398.out 7
            have hfz46_8 := blk_frozen BK398.out 8
            have hfz46_9 := blk_frozen BK398.out 9
            go_wp2
            go_meet
            case rel => exact ⟨_, (false), (by first | rfl | (simp; done) | (simp [*]; done)), H', ⟨by have := HJ1.out; have := HK2.out; first | omega | exact Nat.le_refl _⟩, ⟨bx_ BK398⟩, ⟨hx_ HB⟩⟩
           ·rw [if_neg c45] at H
            have c45b0 : (a0_0 == 6) = false := beq_eq_false_iff_ne.mpr c45
            have c45b1 : (a0_0 != 6) = true := bne_iff_ne.mpr c45
            have H' := am_ H
            clear H
            have hcz47_0 : wr.cell? ⟨gb398, 0, none⟩ = some (.int .i64 a0_0) := (blk_cell BK398.out 0).trans rfl
            have hcz47_1 : wr.cell? ⟨gb398, 1, none⟩ = some (.int .u64 a0_1) := (blk_cell BK398.out 1).trans rfl
            have hcz47_2 : wr.cell? ⟨gb398, 2, none⟩ = some (.int .u64 a0_2) := (blk_cell BK398.out 2).trans rfl
            have hcz47_3 : wr.cell? ⟨gb398, 3, none⟩ = some (.int .u64 a0_3) := (blk_cell BK398.out 3).trans rfl
            have hcz47_4 : wr.cell? ⟨gb398, 4, none⟩ = some (.int .u64 a0_4) := (blk_cell BK398.out 4).trans rfl
            have hcz47_5 : wr.cell? ⟨gb398, 5, none⟩ = some (.int .u64 a0_5) := (blk_cell BK398.out 5).trans rfl
            have hcz47_6 : wr.cell? ⟨gb398, 6, none⟩ = some (.int .u64 a0_6) := (blk_cell BK398.out 6).trans rfl
            have hcz47_7 : wr.cell? ⟨gb398, 7, none⟩ = some (.bool a0_7) := (blk_cell BK398.out 7).trans rfl
            have hcz47_8 : wr.cell? ⟨gb398, 8, none⟩ = some (.slice A0_8 l0_8.length c0_8) := (blk_cell BK398.out 8).trans rfl
            have hcz47_9 : wr.cell? ⟨gb398, 9, none⟩ = some (.string a0_9) := (blk_cell BK398.out 9).trans rfl
            have hfz47_0 := blk_frozen BK398.out 0
            have hfz47_1 := blk_frozen BK398.out 1
            have hfz47_2 := blk_frozen BK398.out 2
            have hfz47_3 := blk_frozen BK398.out 3
            have hfz47_4 := blk_frozen BK398.out 4
            have hfz47_5 := blk_frozen BK398.out 5
            have hfz47_6 := blk_frozen BK398.out 6
            have hfz47_7 := blk_frozen BK398.out 7
            have hfz47_8 := blk_frozen BK398.out 8
            have hfz47_9 := blk_frozen BK398.out 9
            go_wp2
            go_meet
            case rel => exact ⟨_, (decide ((a0_9.size : Int) > 0)), (by first | rfl | (simp; done) | (simp [*]; done)), H', ⟨by have := HJ1.out; have := HK2.out; first | omega | exact Nat.le_refl _⟩, ⟨bx_ BK398⟩, ⟨hx_ HB⟩⟩
       case rest =>
        clear HC35
        try clear c2
        try clear p2
        try clear c3
        try clear p3
        try clear q3
        try clear hx3
        try clear c4
        try clear p4
        try clear q4
        try clear hx4
        try clear p6
        try clear c28
        try clear c28b0
        try clear c29
        try clear c29b0
        try clear c30
        try clear c30b0
        try clear c32
        try clear c32b0
        try clear c32b1
        try clear c37
        try clear c37b0
        try clear c37b1
        try clear c38
        try clear c38b0
        try clear c38b1
        try clear p39
        try clear q39
        try clear hx39
        try clear p40
        try clear q40
        try clear hx40
        try clear c41
        try clear c41b0
        try clear c43
        try clear c43b0
        try clear c43b1
        try clear c45
        try clear c45b0
        try clear c45b1
        try clear hcz13_2
        try clear hcz13_3
        try clear hcz13_4
        try clear hcz13_5
        try clear hcz13_6
        try clear hcz13_7
        try clear hcz13_8
        try clear hcz13_9
        try clear hcz15_0
        try clear hcz15_1
        try clear hcz15_2
        try clear hcz15_3
        try clear hcz15_4
        try clear hcz15_5
        try clear hcz15_6
        try clear hcz15_7
        try clear hcz15_8
        try clear hcz15_9
        try clear hcz17_0
        try clear hcz17_1
        try clear hcz17_2
        try clear hcz17_3
        try clear hcz17_4
        try clear hcz17_5
        try clear hcz17_6
        try clear hcz17_7
        try clear hcz17_8
        try clear hcz17_9
        try clear hcz19_0
        try clear hcz19_1
        try clear hcz19_2
        try clear hcz19_3
        try clear hcz19_4
        try clear hcz19_5
        try clear hcz19_6
        try clear hcz19_7
        try clear hcz19_8
        try clear hcz19_9
        try clear hcz21_0
        try clear hcz21_1
        try clear hcz21_2
        try clear hcz21_3
        try clear hcz21_4
        try clear hcz21_5
        try clear hcz21_6
        try clear hcz21_7
        try clear hcz21_8
        try clear hcz21_9
        try clear hcz23_0
        try clear hcz23_1
        try clear hcz23_2
        try clear hcz23_3
        try clear hcz23_4
        try clear hcz23_5
        try clear hcz23_6
        try clear hcz23_7
        try clear hcz23_8
        try clear hcz23_9
        try clear hcz25_0
        try clear hcz25_1
        try clear hcz25_2
        try clear hcz25_3
        try clear hcz25_4
        try clear hcz25_5
        try clear hcz25_6
        try clear hcz25_7
        try clear hcz25_8
        try clear hcz25_9
        try clear hcz26_0
        try clear hcz26_1
        try clear hcz26_2
        try clear hcz26_3
        try clear hcz26_4
        try clear hcz26_5
        try clear hcz26_6
        try clear hcz26_7
        try clear hcz26_8
        try clear hcz26_9
        try clear hcz31_0
        try clear hcz31_1
        try clear hcz31_2
        try clear hcz31_3
        try clear hcz31_4
        try clear hcz31_5
        try clear hcz31_6
        try clear hcz31_7
        try clear hcz31_8
        try clear hcz31_9
        try clear hcz33_0
        try clear hcz33_1
        try clear hcz33_2
        try clear hcz33_3
        try clear hcz33_4
        try clear hcz33_5
        try clear hcz33_6
        try clear hcz33_7
        try clear hcz33_8
        try clear hcz33_9
        try clear hcz34_0
        try clear hcz34_1
        try clear hcz34_2
        try clear hcz34_3
        try clear hcz34_4
        try clear hcz34_5
        try clear hcz34_6
        try clear hcz34_7
        try clear hcz34_8
        try clear hcz34_9
        try clear hcz36_0
        try clear hcz36_1
        try clear hcz36_2
        try clear hcz36_3
        try clear hcz36_4
        try clear hcz36_5
        try clear hcz36_6
        try clear hcz36_7
        try clear hcz36_8
        try clear hcz36_9
        try clear hcz39_0
        try clear hcz39_1
        try clear hcz39_2
        try clear hcz39_3
        try clear hcz39_4
        try clear hcz39_5
        try clear hcz39_6
        try clear hcz39_7
        try clear hcz39_8
        try clear hcz39_9
        try clear hcz40_0
        try clear hcz40_1
        try clear hcz40_2
        try clear hcz40_3
        try clear hcz40_4
        try clear hcz40_5
        try clear hcz40_6
        try clear hcz40_7
        try clear hcz40_8
        try clear hcz40_9
        try clear hcz42_0
        try clear hcz42_1
        try clear hcz42_2
        try clear hcz42_3
        try clear hcz42_4
        try clear hcz42_5
        try clear hcz42_6
        try clear hcz42_7
        try clear hcz42_8
        try clear hcz42_9
        try clear hcz44_0
        try clear hcz44_1
        try clear hcz44_2
        try clear hcz44_3
        try clear hcz44_4
        try clear hcz44_5
        try clear hcz44_6
        try clear hcz44_7
        try clear hcz44_8
        try clear hcz44_9
        try clear hcz46_0
        try clear hcz46_1
        try clear hcz46_2
        try clear hcz46_3
        try clear hcz46_4
        try clear hcz46_5
        try clear hcz46_6
        try clear hcz46_7
        try clear hcz46_8
        try clear hcz46_9
        try clear hcz47_0
        try clear hcz47_1
        try clear hcz47_2
        try clear hcz47_3
        try clear hcz47_4
        try clear hcz47_5
        try clear hcz47_6
        try clear hcz47_7
        try clear hcz47_8
        try clear hcz47_9
        try clear hcz5_0
        try clear hcz5_1
        try clear hcz5_2
        try clear hcz5_3
        try clear hcz5_4
        try clear hcz5_5
        try clear hcz5_6
        try clear hcz5_7
        try clear hcz5_8
        try clear hcz5_9
        try clear hcz7_0
        try clear hcz7_1
        try clear hcz7_2
        try clear hcz7_3
        try clear hcz7_4
        try clear hcz7_5
        try clear hcz7_6
        try clear hcz7_7
        try clear hcz7_8
        try clear hcz7_9
        try clear hcz9_0
        try clear hcz9_1
        try clear hcz9_2
        try clear hcz9_3
        try clear hcz9_4
        try clear hcz9_5
        try clear hcz9_6
        try clear hcz9_7
        try clear hcz9_8
        try clear hcz9_9
        try clear hfz11_0
        try clear hfz11_1
        try clear hfz11_2
        try clear hfz11_3
        try clear hfz11_4
        try clear hfz11_5
        try clear hfz11_6
        try clear hfz11_7
        try clear hfz11_8
        try clear hfz11_9
        try clear hfz13_0
        try clear hfz13_1
        try clear hfz13_2
        try clear hfz13_3
        try clear hfz13_4
        try clear hfz13_5
        try clear hfz13_6
        try clear hfz13_7
        try clear hfz13_8
        try clear hfz13_9
        try clear hfz15_0
        try clear hfz15_1
        try clear hfz15_2
        try clear hfz15_3
        try clear hfz15_4
        try clear hfz15_5
        try clear hfz15_6
        try clear hfz15_7
        try clear hfz15_8
        try clear hfz15_9
        try clear hfz17_0
        try clear hfz17_1
        try clear hfz17_2
        try clear hfz17_3
        try clear hfz17_4
        try clear hfz17_5
        try clear hfz17_6
        try clear hfz17_7
        try clear hfz17_8
        try clear hfz17_9
        try clear hfz19_0
        try clear hfz19_1
        try clear hfz19_2
        try clear hfz19_3
        try clear hfz19_4
        try clear hfz19_5
        try clear hfz19_6
        try clear hfz19_7
        try clear hfz19_8
        try clear hfz19_9
        try clear hfz21_0
        try clear hfz21_1
        try clear hfz21_2
        try clear hfz21_3
        try clear hfz21_4
        try clear hfz21_5
        try clear hfz21_6
        try clear hfz21_7
        try clear hfz21_8
        try clear hfz21_9
        try clear hfz23_0
        try clear hfz23_1
        try clear hfz23_2
        try clear hfz23_3
        try clear hfz23_4
        try clear hfz23_5
        try clear hfz23_6
        try clear hfz23_7
        try clear hfz23_8
        try clear hfz23_9
        try clear hfz25_0
        try clear hfz25_1
        try clear hfz25_2
        try clear hfz25_3
        try clear hfz25_4
        try clear hfz25_5
        try clear hfz25_6
        try clear hfz25_7
        try clear hfz25_8
        try clear hfz25_9
        try clear hfz26_0
        try clear hfz26_1
        try clear hfz26_2
        try clear hfz26_3
        try clear hfz26_4
        try clear hfz26_5
        try clear hfz26_6
        try clear hfz26_7
        try clear hfz26_8
        try clear hfz26_9
        try clear hfz31_0
        try clear hfz31_1
        try clear hfz31_2
        try clear hfz31_3
        try clear hfz31_4
        try clear hfz31_5
        try clear hfz31_6
        try clear hfz31_7
        try clear hfz31_8
        try clear hfz31_9
        try clear hfz33_0
        try clear hfz33_1
        try clear hfz33_2
        try clear hfz33_3
        try clear hfz33_4
        try clear hfz33_5
        try clear hfz33_6
        try clear hfz33_7
        try clear hfz33_8
        try clear hfz33_9
        try clear hfz34_0
        try clear hfz34_1
        try clear hfz34_2
        try clear hfz34_3
        try clear hfz34_4
        try clear hfz34_5
        try clear hfz34_6
        try clear hfz34_7
        try clear hfz34_8
        try clear hfz34_9
        try clear hfz36_0
        try clear hfz36_1
        try clear hfz36_2
        try clear hfz36_3
        try clear hfz36_4
        try clear hfz36_5
        try clear hfz36_6
        try clear hfz36_7
        try clear hfz36_8
        try clear hfz36_9
        try clear hfz39_0
        try clear hfz39_1
        try clear hfz39_2
        try clear hfz39_3
        try clear hfz39_4
        try clear hfz39_5
        try clear hfz39_6
        try clear hfz39_7
        try clear hfz39_8
        try clear hfz39_9
        try clear hfz40_0
        try clear hfz40_1
        try clear hfz40_2
        try clear hfz40_3
        try clear hfz40_4
        try clear hfz40_5
        try clear hfz40_6
        try clear hfz40_7
        try clear hfz40_8
        try clear hfz40_9
        try clear hfz42_0
        try clear hfz42_1
        try clear hfz42_2
        try clear hfz42_3
        try clear hfz42_4
        try clear hfz42_5
        try clear hfz42_6
        try clear hfz42_7
        try clear hfz42_8
        try clear hfz42_9
        try clear hfz44_0
        try clear hfz44_1
        try clear hfz44_2
        try clear hfz44_3
        try clear hfz44_4
        try clear hfz44_5
        try clear hfz44_6
        try clear hfz44_7
        try clear hfz44_8
        try clear hfz44_9
        try clear hfz46_0
        try clear hfz46_1
        try clear hfz46_2
        try clear hfz46_3
        try clear hfz46_4
        try clear hfz46_5
        try clear hfz46_6
        try clear hfz46_7
        try clear hfz46_8
        try clear hfz46_9
        try clear hfz47_0
        try clear hfz47_1
        try clear hfz47_2
        try clear hfz47_3
        try clear hfz47_4
        try clear hfz47_5
        try clear hfz47_6
        try clear hfz47_7
        try clear hfz47_8
        try clear hfz47_9
        try clear hfz5_0
        try clear hfz5_1
        try clear hfz5_2
        try clear hfz5_3
        try clear hfz5_4
        try clear hfz5_5
        try clear hfz5_6
        try clear hfz5_7
        try clear hfz5_8
        try clear hfz5_9
        try clear hfz7_0
        try clear hfz7_1
        try clear hfz7_2
        try clear hfz7_3
        try clear hfz7_4
        try clear hfz7_5
        try clear hfz7_6
        try clear hfz7_7
        try clear hfz7_8
        try clear hfz7_9
        try clear hfz9_0
        try clear hfz9_1
        try clear hfz9_2
        try clear hfz9_3
        try clear hfz9_4
        try clear hfz9_5
        try clear hfz9_6
        try clear hfz9_7
        try clear hfz9_8
        try clear hfz9_9
        try clear hx399_0
        try clear hx399_1
        try clear hx400_0
        try clear hx400_1
        try clear p2
        try clear p399
        try clear p400
        try clear q399
        try clear q400
        obtain ⟨kq, x112_34, rfl, HA, HJ34, BK398, HB⟩ := hcut
        cases kq with
        | zero => exact absurd HA.out (by simp [ferruleref17_May.j2])
        | succ kj34 =>
         have H := HA.out
         clear HA
         simp only [ferruleref17_May.j2] at H
         by_cases c48 : x112_34 = true
         ·subst c48
          have H1 : (some false) = some r := by rw [if_pos rfl] at H; exact H
          clear H
          have H := H1
          clear H1
          obtain rfl := Option.some.inj H
          go_wp2
          go_ret
          exact ⟨by first | rfl | (simp [errW_none, errW_some] <;> rfl) | (simp [*, errW_none, errW_some] <;> rfl), hx_ HB⟩
         ·replace c48 := Bool.eq_false_iff.mpr c48
          subst c48
          have H1 : (if a0_0 = 1 then (ferruleref17_May.j3 kj34 a0_0 (a0_0 == 1) a0_0 a0_1 a0_2 a0_3 a0_4 a0_5 a0_6 a0_7 l0_8 a0_9) else (if a0_0 = 3 then (ferruleref17_May.j3 kj34 a0_0 (a0_0 == 3) a0_0 a0_1 a0_2 a0_3 a0_4 a0_5 a0_6 a0_7 l0_8 a0_9) else (if a0_0 = 5 then (ferruleref17_May.j3 kj34 a0_0 (a0_0 == 5) a0_0 a0_1 a0_2 a0_3 a0_4 a0_5 a0_6 a0_7 l0_8 a0_9) else (ferruleref17_May.j3 kj34 a0_0 (a0_0 == 6) a0_0 a0_1 a0_2 a0_3 a0_4 a0_5 a0_6 a0_7 l0_8 a0_9)))) = some r := by rw [if_neg (show ¬ (false = true) by decide)] at H; exact H
          clear H
          have H := H1
          clear H1
          have HC49 := am_ H
          clear H
          have hcz50_0 : wc.cell? ⟨gb398, 0, none⟩ = some (.int .i64 a0_0) := (blk_cell BK398.out 0).trans rfl
          have hcz50_1 : wc.cell? ⟨gb398, 1, none⟩ = some (.int .u64 a0_1) := (blk_cell BK398.out 1).trans rfl
          have hcz50_2 : wc.cell? ⟨gb398, 2, none⟩ = some (.int .u64 a0_2) := (blk_cell BK398.out 2).trans rfl
          have hcz50_3 : wc.cell? ⟨gb398, 3, none⟩ = some (.int .u64 a0_3) := (blk_cell BK398.out 3).trans rfl
          have hcz50_4 : wc.cell? ⟨gb398, 4, none⟩ = some (.int .u64 a0_4) := (blk_cell BK398.out 4).trans rfl
          have hcz50_5 : wc.cell? ⟨gb398, 5, none⟩ = some (.int .u64 a0_5) := (blk_cell BK398.out 5).trans rfl
          have hcz50_6 : wc.cell? ⟨gb398, 6, none⟩ = some (.int .u64 a0_6) := (blk_cell BK398.out 6).trans rfl
          have hcz50_7 : wc.cell? ⟨gb398, 7, none⟩ = some (.bool a0_7) := (blk_cell BK398.out 7).trans rfl
          have hcz50_8 : wc.cell? ⟨gb398, 8, none⟩ = some (.slice A0_8 l0_8.length c0_8) := (blk_cell BK398.out 8).trans rfl
          have hcz50_9 : wc.cell? ⟨gb398, 9, none⟩ = some (.string a0_9) := (blk_cell BK398.out 9).trans rfl
          have hfz50_0 := blk_frozen BK398.out 0
          have hfz50_1 := blk_frozen BK398.out 1
          have hfz50_2 := blk_frozen BK398.out 2
          have hfz50_3 := blk_frozen BK398.out 3
          have hfz50_4 := blk_frozen BK398.out 4
          have hfz50_5 := blk_frozen BK398.out 5
          have hfz50_6 := blk_frozen BK398.out 6
          have hfz50_7 := blk_frozen BK398.out 7
          have hfz50_8 := blk_frozen BK398.out 8
          have hfz50_9 := blk_frozen BK398.out 9
          go_upto_if 115 with (fail)
          go_cut [115] (fun v115 wc => ∃ (kq : Nat) (x115_48 : Bool), v115 = .bool x115_48 ∧ Aside0 (ferruleref17_May.j3 kq a0_0 x115_48 a0_0 a0_1 a0_2 a0_3 a0_4 a0_5 a0_6 a0_7 l0_8 a0_9 = some r) ∧ Aside0 (kq ≤ kj34) ∧ Aside0 (wc.heap[gb398]? = some (.cells #[.int .i64 a0_0, .int .u64 a0_1, .int .u64 a0_2, .int .u64 a0_3, .int .u64 a0_4, .int .u64 a0_5, .int .u64 a0_6, .bool a0_7, (.slice A0_8 l0_8.length c0_8), .string a0_9] 57 (0, 0))) ∧ Aside0 (Below w.heap.size w wc))
          case first =>
           have H := HC49.out
           clear HC49
           by_cases c51 : a0_0 = 1
           ·rw [if_pos c51] at H
            have c51b0 : (a0_0 == 1) = true := beq_iff_eq.mpr c51
            have c51b1 : (a0_0 != 1) = false := bne_eq_false_iff_eq.mpr c51
            clear c51
            (first | rw [c51b0] | (simp only [i64_w, i32_w]; rw [c51b0]) | skip)
            have H' := am_ H
            clear H
            go_wp2
            go_meet
            case rel => exact ⟨_, ((a0_0 == 1)), (by first | rfl | (simp; done) | (simp [*]; done)), H', ⟨by have := HJ1.out; have := HK2.out; have := HJ34.out; first | omega | exact Nat.le_refl _⟩, ⟨bx_ BK398⟩, ⟨hx_ HB⟩⟩
           ·rw [if_neg c51] at H
            have c51b0 : (a0_0 == 1) = false := beq_eq_false_iff_ne.mpr c51
            have c51b1 : (a0_0 != 1) = true := bne_iff_ne.mpr c51
            (first | rw [c51b0] | (simp only [i64_w, i32_w]; rw [c51b0]) | skip)
            by_cases c52 : a0_0 = 3
            ·rw [if_pos c52] at H
             have c52b0 : (a0_0 == 3) = true := beq_iff_eq.mpr c52
             have c52b1 : (a0_0 != 3) = false := bne_eq_false_iff_eq.mpr c52
             clear c52
             have H' := am_ H
             clear H
             go_wp2
             go_meet
             case rel => exact ⟨_, ((a0_0 == 3)), (by first | rfl | (simp; done) | (simp [*]; done)), H', ⟨by have := HJ1.out; have := HK2.out; have := HJ34.out; first | omega | exact Nat.le_refl _⟩, ⟨bx_ BK398⟩, ⟨hx_ HB⟩⟩
            ·rw [if_neg c52] at H
             have c52b0 : (a0_0 == 3) = false := beq_eq_false_iff_ne.mpr c52
             have c52b1 : (a0_0 != 3) = true := bne_iff_ne.mpr c52
             by_cases c53 : a0_0 = 5
             ·rw [if_pos c53] at H
              have c53b0 : (a0_0 == 5) = true := beq_iff_eq.mpr c53
              have c53b1 : (a0_0 != 5) = false := bne_eq_false_iff_eq.mpr c53
              clear c53
              have H' := am_ H
              clear H
              go_wp2
              go_meet
              case rel => exact ⟨_, ((a0_0 == 5)), (by first | rfl | (simp; done) | (simp [*]; done)), H', ⟨by have := HJ1.out; have := HK2.out; have := HJ34.out; first | omega | exact Nat.le_refl _⟩, ⟨bx_ BK398⟩, ⟨hx_ HB⟩⟩
             ·rw [if_neg c53] at H
              have c53b0 : (a0_0 == 5) = false := beq_eq_false_iff_ne.mpr c53
              have c53b1 : (a0_0 != 5) = true := bne_iff_ne.mpr c53
              have H' := am_ H
              clear H
              go_wp2
              go_meet
              case rel => exact ⟨_, ((a0_0 == 6)), (by first | rfl | (simp; done) | (simp [*]; done)), H', ⟨by have := HJ1.out; have := HK2.out; have := HJ34.out; first | omega | exact Nat.le_refl _⟩, ⟨bx_ BK398⟩, ⟨hx_ HB⟩⟩
          case rest =>
           clear HC49
           try clear c2
           try clear p2
           try clear c3
           try clear p3
           try clear q3
           try clear hx3
           try clear c4
           try clear p4
           try clear q4
           try clear hx4
           try clear c5
           try clear p6
           try clear c28
           try clear c28b0
           try clear c29
           try clear c29b0
           try clear c30
           try clear c30b0
           try clear c32
           try clear c32b0
           try clear c32b1
           try clear c37
           try clear c37b0
           try clear c37b1
           try clear c38
           try clear c38b0
           try clear c38b1
           try clear p39
           try clear q39
           try clear hx39
           try clear p40
           try clear q40
           try clear hx40
           try clear c41
           try clear c41b0
           try clear c43
           try clear c43b0
           try clear c43b1
           try clear c45
           try clear c45b0
           try clear c45b1
           try clear c48
           try clear c51
           try clear c51b0
           try clear c51b1
           try clear c52
           try clear c52b0
           try clear c52b1
           try clear c53
           try clear c53b0
           try clear c53b1
           try clear hcz13_2
           try clear hcz13_3
           try clear hcz13_4
           try clear hcz13_5
           try clear hcz13_6
           try clear hcz13_7
           try clear hcz13_8
           try clear hcz13_9
           try clear hcz15_0
           try clear hcz15_1
           try clear hcz15_2
           try clear hcz15_3
           try clear hcz15_4
           try clear hcz15_5
           try clear hcz15_6
           try clear hcz15_7
           try clear hcz15_8
           try clear hcz15_9
           try clear hcz17_0
           try clear hcz17_1
           try clear hcz17_2
           try clear hcz17_3
           try clear hcz17_4
           try clear hcz17_5
           try clear hcz17_6
           try clear hcz17_7
           try clear hcz17_8
           try clear hcz17_9
           try clear hcz19_0
           try clear hcz19_1
           try clear hcz19_2
           try clear hcz19_3
           try clear hcz19_4
           try clear hcz19_5
           try clear hcz19_6
           try clear hcz19_7
           try clear hcz19_8
           try clear hcz19_9
           try clear hcz21_0
           try clear hcz21_1
           try clear hcz21_2
           try clear hcz21_3
           try clear hcz21_4
           try clear hcz21_5
           try clear hcz21_6
           try clear hcz21_7
           try clear hcz21_8
           try clear hcz21_9
           try clear hcz23_0
           try clear hcz23_1
           try clear hcz23_2
           try clear hcz23_3
           try clear hcz23_4
           try clear hcz23_5
           try clear hcz23_6
           try clear hcz23_7
           try clear hcz23_8
           try clear hcz23_9
           try clear hcz25_0
           try clear hcz25_1
           try clear hcz25_2
           try clear hcz25_3
           try clear hcz25_4
           try clear hcz25_5
           try clear hcz25_6
           try clear hcz25_7
           try clear hcz25_8
           try clear hcz25_9
           try clear hcz26_0
           try clear hcz26_1
           try clear hcz26_2
           try clear hcz26_3
           try clear hcz26_4
           try clear hcz26_5
           try clear hcz26_6
           try clear hcz26_7
           try clear hcz26_8
           try clear hcz26_9
           try clear hcz31_0
           try clear hcz31_1
           try clear hcz31_2
           try clear hcz31_3
           try clear hcz31_4
           try clear hcz31_5
           try clear hcz31_6
           try clear hcz31_7
           try clear hcz31_8
           try clear hcz31_9
           try clear hcz33_0
           try clear hcz33_1
           try clear hcz33_2
           try clear hcz33_3
           try clear hcz33_4
           try clear hcz33_5
           try clear hcz33_6
           try clear hcz33_7
           try clear hcz33_8
           try clear hcz33_9
           try clear hcz34_0
           try clear hcz34_1
           try clear hcz34_2
           try clear hcz34_3
           try clear hcz34_4
           try clear hcz34_5
           try clear hcz34_6
           try clear hcz34_7
           try clear hcz34_8
           try clear hcz34_9
           try clear hcz36_0
           try clear hcz36_1
           try clear hcz36_2
           try clear hcz36_3
           try clear hcz36_4
           try clear hcz36_5
           try clear hcz36_6
           try clear hcz36_7
           try clear hcz36_8
           try clear hcz36_9
           try clear hcz39_0
           try clear hcz39_1
           try clear hcz39_2
           try clear hcz39_3
           try clear hcz39_4
           try clear hcz39_5
           try clear hcz39_6
           try clear hcz39_7
           try clear hcz39_8
           try clear hcz39_9
           try clear hcz40_0
           try clear hcz40_1
           try clear hcz40_2
           try clear hcz40_3
           try clear hcz40_4
           try clear hcz40_5
           try clear hcz40_6
           try clear hcz40_7
           try clear hcz40_8
           try clear hcz40_9
           try clear hcz42_0
           try clear hcz42_1
           try clear hcz42_2
           try clear hcz42_3
           try clear hcz42_4
           try clear hcz42_5
           try clear hcz42_6
           try clear hcz42_7
           try clear hcz42_8
           try clear hcz42_9
           try clear hcz44_0
           try clear hcz44_1
           try clear hcz44_2
           try clear hcz44_3
           try clear hcz44_4
           try clear hcz44_5
           try clear hcz44_6
           try clear hcz44_7
           try clear hcz44_8
           try clear hcz44_9
           try clear hcz46_0
           try clear hcz46_1
           try clear hcz46_2
           try clear hcz46_3
           try clear hcz46_4
           try clear hcz46_5
           try clear hcz46_6
           try clear hcz46_7
           try clear hcz46_8
           try clear hcz46_9
           try clear hcz47_0
           try clear hcz47_1
           try clear hcz47_2
           try clear hcz47_3
           try clear hcz47_4
           try clear hcz47_5
           try clear hcz47_6
           try clear hcz47_7
           try clear hcz47_8
           try clear hcz47_9
           try clear hcz50_0
           try clear hcz50_1
           try clear hcz50_2
           try clear hcz50_3
           try clear hcz50_4
           try clear hcz50_5
           try clear hcz50_6
           try clear hcz50_7
           try clear hcz50_8
           try clear hcz50_9
           try clear hcz5_0
           try clear hcz5_1
           try clear hcz5_2
           try clear hcz5_3
           try clear hcz5_4
           try clear hcz5_5
           try clear hcz5_6
           try clear hcz5_7
           try clear hcz5_8
           try clear hcz5_9
           try clear hcz7_0
           try clear hcz7_1
           try clear hcz7_2
           try clear hcz7_3
           try clear hcz7_4
           try clear hcz7_5
           try clear hcz7_6
           try clear hcz7_7
           try clear hcz7_8
           try clear hcz7_9
           try clear hcz9_0
           try clear hcz9_1
           try clear hcz9_2
           try clear hcz9_3
           try clear hcz9_4
           try clear hcz9_5
           try clear hcz9_6
           try clear hcz9_7
           try clear hcz9_8
           try clear hcz9_9
           try clear hfz11_0
           try clear hfz11_1
           try clear hfz11_2
           try clear hfz11_3
           try clear hfz11_4
           try clear hfz11_5
           try clear hfz11_6
           try clear hfz11_7
           try clear hfz11_8
           try clear hfz11_9
           try clear hfz13_0
           try clear hfz13_1
           try clear hfz13_2
           try clear hfz13_3
           try clear hfz13_4
           try clear hfz13_5
           try clear hfz13_6
           try clear hfz13_7
           try clear hfz13_8
           try clear hfz13_9
           try clear hfz15_0
           try clear hfz15_1
           try clear hfz15_2
           try clear hfz15_3
           try clear hfz15_4
           try clear hfz15_5
           try clear hfz15_6
           try clear hfz15_7
           try clear hfz15_8
           try clear hfz15_9
           try clear hfz17_0
           try clear hfz17_1
           try clear hfz17_2
           try clear hfz17_3
           try clear hfz17_4
           try clear hfz17_5
           try clear hfz17_6
           try clear hfz17_7
           try clear hfz17_8
           try clear hfz17_9
           try clear hfz19_0
           try clear hfz19_1
           try clear hfz19_2
           try clear hfz19_3
           try clear hfz19_4
           try clear hfz19_5
           try clear hfz19_6
           try clear hfz19_7
           try clear hfz19_8
           try clear hfz19_9
           try clear hfz21_0
           try clear hfz21_1
           try clear hfz21_2
           try clear hfz21_3
           try clear hfz21_4
           try clear hfz21_5
           try clear hfz21_6
           try clear hfz21_7
           try clear hfz21_8
           try clear hfz21_9
           try clear hfz23_0
           try clear hfz23_1
           try clear hfz23_2
           try clear hfz23_3
           try clear hfz23_4
           try clear hfz23_5
           try clear hfz23_6
           try clear hfz23_7
           try clear hfz23_8
           try clear hfz23_9
           try clear hfz25_0
           try clear hfz25_1
           try clear hfz25_2
           try clear hfz25_3
           try clear hfz25_4
           try clear hfz25_5
           try clear hfz25_6
           try clear hfz25_7
           try clear hfz25_8
           try clear hfz25_9
           try clear hfz26_0
           try clear hfz26_1
           try clear hfz26_2
           try clear hfz26_3
           try clear hfz26_4
           try clear hfz26_5
           try clear hfz26_6
           try clear hfz26_7
           try clear hfz26_8
           try clear hfz26_9
           try clear hfz31_0
           try clear hfz31_1
           try clear hfz31_2
           try clear hfz31_3
           try clear hfz31_4
           try clear hfz31_5
           try clear hfz31_6
           try clear hfz31_7
           try clear hfz31_8
           try clear hfz31_9
           try clear hfz33_0
           try clear hfz33_1
           try clear hfz33_2
           try clear hfz33_3
           try clear hfz33_4
           try clear hfz33_5
           try clear hfz33_6
           try clear hfz33_7
           try clear hfz33_8
           try clear hfz33_9
           try clear hfz34_0
           try clear hfz34_1
           try clear hfz34_2
           try clear hfz34_3
           try clear hfz34_4
           try clear hfz34_5
           try clear hfz34_6
           try clear hfz34_7
           try clear hfz34_8
           try clear hfz34_9
           try clear hfz36_0
           try clear hfz36_1
           try clear hfz36_2
           try clear hfz36_3
           try clear hfz36_4
           try clear hfz36_5
           try clear hfz36_6
           try clear hfz36_7
           try clear hfz36_8
           try clear hfz36_9
           try clear hfz39_0
           try clear hfz39_1
           try clear hfz39_2
           try clear hfz39_3
           try clear hfz39_4
           try clear hfz39_5
           try clear hfz39_6
           try clear hfz39_7
           try clear hfz39_8
           try clear hfz39_9
           try clear hfz40_0
           try clear hfz40_1
           try clear hfz40_2
           try clear hfz40_3
           try clear hfz40_4
           try clear hfz40_5
           try clear hfz40_6
           try clear hfz40_7
           try clear hfz40_8
           try clear hfz40_9
           try clear hfz42_0
           try clear hfz42_1
           try clear hfz42_2
           try clear hfz42_3
           try clear hfz42_4
           try clear hfz42_5
           try clear hfz42_6
           try clear hfz42_7
           try clear hfz42_8
           try clear hfz42_9
           try clear hfz44_0
           try clear hfz44_1
           try clear hfz44_2
           try clear hfz44_3
           try clear hfz44_4
           try clear hfz44_5
           try clear hfz44_6
           try clear hfz44_7
           try clear hfz44_8
           try clear hfz44_9
           try clear hfz46_0
           try clear hfz46_1
           try clear hfz46_2
           try clear hfz46_3
           try clear hfz46_4
           try clear hfz46_5
           try clear hfz46_6
           try clear hfz46_7
           try clear hfz46_8
           try clear hfz46_9
           try clear hfz47_0
           try clear hfz47_1
           try clear hfz47_2
           try clear hfz47_3
           try clear hfz47_4
           try clear hfz47_5
           try clear hfz47_6
           try clear hfz47_7
           try clear hfz47_8
           try clear hfz47_9
           try clear hfz50_0
           try clear hfz50_1
           try clear hfz50_2
           try clear hfz50_3
           try clear hfz50_4
           try clear hfz50_5
           try clear hfz50_6
           try clear hfz50_7
           try clear hfz50_8
           try clear hfz50_9
           try clear hfz5_0
           try clear hfz5_1
           try clear hfz5_2
           try clear hfz5_3
           try clear hfz5_4
           try clear hfz5_5
           try clear hfz5_6
           try clear hfz5_7
           try clear hfz5_8
           try clear hfz5_9
           try clear hfz7_0
           try clear hfz7_1
           try clear hfz7_2
           try clear hfz7_3
           try clear hfz7_4
           try clear hfz7_5
           try clear hfz7_6
           try clear hfz7_7
           try clear hfz7_8
           try clear hfz7_9
           try clear hfz9_0
           try clear hfz9_1
           try clear hfz9_2
           try clear hfz9_3
           try clear hfz9_4
           try clear hfz9_5
           try clear hfz9_6
           try clear hfz9_7
           try clear hfz9_8
           try clear hfz9_9
           try clear hx399_0
           try clear hx399_1
           try clear hx400_0
           try clear hx400_1
           try clear p2
           try clear p3
           try clear p39
           try clear p399
           try clear p4
           try clear p40
           try clear p400
           try clear p6
           try clear q3
           try clear q39
           try clear q399
           try clear q4
           try clear q40
           try clear q400
           obtain ⟨kq, x115_48, rfl, HA, HJ48, BK398, HB⟩ := hcut
           cases kq with
           | zero => exact absurd HA.out (by simp [ferruleref17_May.j3])
           | succ kj48 =>
            have H := HA.out
            clear HA
            simp only [ferruleref17_May.j3] at H
            by_cases c54 : x115_48 = true
            ·subst c54
             have H1 : (some (!a0_7)) = some r := by rw [if_pos rfl] at H; exact H
             clear H
             have H := H1
             clear H1
             obtain rfl := Option.some.inj H
             have hcz55_0 : wc.cell? ⟨gb398, 0, none⟩ = some (.int .i64 a0_0) := (blk_cell BK398.out 0).trans rfl
             have hcz55_1 : wc.cell? ⟨gb398, 1, none⟩ = some (.int .u64 a0_1) := (blk_cell BK398.out 1).trans rfl
             have hcz55_2 : wc.cell? ⟨gb398, 2, none⟩ = some (.int .u64 a0_2) := (blk_cell BK398.out 2).trans rfl
             have hcz55_3 : wc.cell? ⟨gb398, 3, none⟩ = some (.int .u64 a0_3) := (blk_cell BK398.out 3).trans rfl
             have hcz55_4 : wc.cell? ⟨gb398, 4, none⟩ = some (.int .u64 a0_4) := (blk_cell BK398.out 4).trans rfl
             have hcz55_5 : wc.cell? ⟨gb398, 5, none⟩ = some (.int .u64 a0_5) := (blk_cell BK398.out 5).trans rfl
             have hcz55_6 : wc.cell? ⟨gb398, 6, none⟩ = some (.int .u64 a0_6) := (blk_cell BK398.out 6).trans rfl
             have hcz55_7 : wc.cell? ⟨gb398, 7, none⟩ = some (.bool a0_7) := (blk_cell BK398.out 7).trans rfl
             have hcz55_8 : wc.cell? ⟨gb398, 8, none⟩ = some (.slice A0_8 l0_8.length c0_8) := (blk_cell BK398.out 8).trans rfl
             have hcz55_9 : wc.cell? ⟨gb398, 9, none⟩ = some (.string a0_9) := (blk_cell BK398.out 9).trans rfl
             have hfz55_0 := blk_frozen BK398.out 0
             have hfz55_1 := blk_frozen BK398.out 1
             have hfz55_2 := blk_frozen BK398.out 2
             have hfz55_3 := blk_frozen BK398.out 3
             have hfz55_4 := blk_frozen BK398.out 4
             have hfz55_5 := blk_frozen BK398.out 5
             have hfz55_6 := blk_frozen BK398.out 6
             have hfz55_7 := blk_frozen BK398.out 7
             have hfz55_8 := blk_frozen BK398.out 8
             have hfz55_9 := blk_frozen BK398.out 9
             go_wp2
             go_ret
             exact ⟨by first | rfl | (simp [errW_none, errW_some] <;> rfl) | (simp [*, errW_none, errW_some] <;> rfl), hx_ HB⟩
            ·replace c54 := Bool.eq_false_iff.mpr c54
             subst c54
             have H1 : (if a0_0 = 2 then (if a0_4 = 0 then (some (a0_5 == 0)) else (some false)) else (if a0_0 = 4 then (if a0_4 = 0 then (some (a0_5 == 0)) else (some false)) else (some (a0_5 == 0)))) = some r := by rw [if_neg (show ¬ (false = true) by decide)] at H; exact H
             clear H
             have H := H1
             clear H1
             by_cases c56 : a0_0 = 2
             ·rw [if_pos c56] at H
              have c56b0 : (a0_0 == 2) = true := beq_iff_eq.mpr c56
              have c56b1 : (a0_0 != 2) = false := bne_eq_false_iff_eq.mpr c56
              clear c56
              by_cases c57 : a0_4 = 0
              ·rw [if_pos c57] at H
               have c57b0 : (a0_4 == 0) = true := beq_iff_eq.mpr c57
               have c57b1 : (a0_4 != 0) = false := bne_eq_false_iff_eq.mpr c57
               clear c57
               obtain rfl := Option.some.inj H
               have hcz58_0 : wc.cell? ⟨gb398, 0, none⟩ = some (.int .i64 a0_0) := (blk_cell BK398.out 0).trans rfl
               have hcz58_1 : wc.cell? ⟨gb398, 1, none⟩ = some (.int .u64 a0_1) := (blk_cell BK398.out 1).trans rfl
               have hcz58_2 : wc.cell? ⟨gb398, 2, none⟩ = some (.int .u64 a0_2) := (blk_cell BK398.out 2).trans rfl
               have hcz58_3 : wc.cell? ⟨gb398, 3, none⟩ = some (.int .u64 a0_3) := (blk_cell BK398.out 3).trans rfl
               have hcz58_4 : wc.cell? ⟨gb398, 4, none⟩ = some (.int .u64 a0_4) := (blk_cell BK398.out 4).trans rfl
               have hcz58_5 : wc.cell? ⟨gb398, 5, none⟩ = some (.int .u64 a0_5) := (blk_cell BK398.out 5).trans rfl
               have hcz58_6 : wc.cell? ⟨gb398, 6, none⟩ = some (.int .u64 a0_6) := (blk_cell BK398.out 6).trans rfl
               have hcz58_7 : wc.cell? ⟨gb398, 7, none⟩ = some (.bool a0_7) := (blk_cell BK398.out 7).trans rfl
               have hcz58_8 : wc.cell? ⟨gb398, 8, none⟩ = some (.slice A0_8 l0_8.length c0_8) := (blk_cell BK398.out 8).trans rfl
               have hcz58_9 : wc.cell? ⟨gb398, 9, none⟩ = some (.string a0_9) := (blk_cell BK398.out 9).trans rfl
               have hfz58_0 := blk_frozen BK398.out 0
               have hfz58_1 := blk_frozen BK398.out 1
               have hfz58_2 := blk_frozen BK398.out 2
               have hfz58_3 := blk_frozen BK398.out 3
               have hfz58_4 := blk_frozen BK398.out 4
               have hfz58_5 := blk_frozen BK398.out 5
               have hfz58_6 := blk_frozen BK398.out 6
               have hfz58_7 := blk_frozen BK398.out 7
               have hfz58_8 := blk_frozen BK398.out 8
               have hfz58_9 := blk_frozen BK398.out 9
               go_wp2
               go_ret
               exact ⟨by first | rfl | (simp [errW_none, errW_some] <;> rfl) | (simp [*, errW_none, errW_some] <;> rfl), hx_ HB⟩
              ·rw [if_neg c57] at H
               have c57b0 : (a0_4 == 0) = false := beq_eq_false_iff_ne.mpr c57
               have c57b1 : (a0_4 != 0) = true := bne_iff_ne.mpr c57
               obtain rfl := Option.some.inj H
               have hcz59_0 : wc.cell? ⟨gb398, 0, none⟩ = some (.int .i64 a0_0) := (blk_cell BK398.out 0).trans rfl
               have hcz59_1 : wc.cell? ⟨gb398, 1, none⟩ = some (.int .u64 a0_1) := (blk_cell BK398.out 1).trans rfl
               have hcz59_2 : wc.cell? ⟨gb398, 2, none⟩ = some (.int .u64 a0_2) := (blk_cell BK398.out 2).trans rfl
               have hcz59_3 : wc.cell? ⟨gb398, 3, none⟩ = some (.int .u64 a0_3) := (blk_cell BK398.out 3).trans rfl
               have hcz59_4 : wc.cell? ⟨gb398, 4, none⟩ = some (.int .u64 a0_4) := (blk_cell BK398.out 4).trans rfl
               have hcz59_5 : wc.cell? ⟨gb398, 5, none⟩ = some (.int .u64 a0_5) := (blk_cell BK398.out 5).trans rfl
               have hcz59_6 : wc.cell? ⟨gb398, 6, none⟩ = some (.int .u64 a0_6) := (blk_cell BK398.out 6).trans rfl
               have hcz59_7 : wc.cell? ⟨gb398, 7, none⟩ = some (.bool a0_7) := (blk_cell BK398.out 7).trans rfl
               have hcz59_8 : wc.cell? ⟨gb398, 8, none⟩ = some (.slice A0_8 l0_8.length c0_8) := (blk_cell BK398.out 8).trans rfl
               have hcz59_9 : wc.cell? ⟨gb398, 9, none⟩ = some (.string a0_9) := (blk_cell BK398.out 9).trans rfl
               have hfz59_0 := blk_frozen BK398.out 0
               have hfz59_1 := blk_frozen BK398.out 1
               have hfz59_2 := blk_frozen BK398.out 2
               have hfz59_3 := blk_frozen BK398.out 3
               have hfz59_4 := blk_frozen BK398.out 4
               have hfz59_5 := blk_frozen BK398.out 5
               have hfz59_6 := blk_frozen BK398.out 6
               have hfz59_7 := blk_frozen BK398.out 7
               have hfz59_8 := blk_frozen BK398.out 8
               have hfz59_9 := blk_frozen BK398.out 9
               go_wp2
               go_ret
               exact ⟨by first | rfl | (simp [errW_none, errW_some] <;> rfl) | (simp [*, errW_none, errW_some] <;> rfl), hx_ HB⟩
             ·rw [if_neg c56] at H
              have c56b0 : (a0_0 == 2) = false := beq_eq_false_iff_ne.mpr c56
              have c56b1 : (a0_0 != 2) = true := bne_iff_ne.mpr c56
              by_cases c60 : a0_0 = 4
              ·rw [if_pos c60] at H
               have c60b0 : (a0_0 == 4) = true := beq_iff_eq.mpr c60
               have c60b1 : (a0_0 != 4) = false := bne_eq_false_iff_eq.mpr c60
               clear c60
               by_cases c61 : a0_4 = 0
               ·rw [if_pos c61] at H
                have c61b0 : (a0_4 == 0) = true := beq_iff_eq.mpr c61
                have c61b1 : (a0_4 != 0) = false := bne_eq_false_iff_eq.mpr c61
                clear c61
                obtain rfl := Option.some.inj H
                have hcz62_0 : wc.cell? ⟨gb398, 0, none⟩ = some (.int .i64 a0_0) := (blk_cell BK398.out 0).trans rfl
                have hcz62_1 : wc.cell? ⟨gb398, 1, none⟩ = some (.int .u64 a0_1) := (blk_cell BK398.out 1).trans rfl
                have hcz62_2 : wc.cell? ⟨gb398, 2, none⟩ = some (.int .u64 a0_2) := (blk_cell BK398.out 2).trans rfl
                have hcz62_3 : wc.cell? ⟨gb398, 3, none⟩ = some (.int .u64 a0_3) := (blk_cell BK398.out 3).trans rfl
                have hcz62_4 : wc.cell? ⟨gb398, 4, none⟩ = some (.int .u64 a0_4) := (blk_cell BK398.out 4).trans rfl
                have hcz62_5 : wc.cell? ⟨gb398, 5, none⟩ = some (.int .u64 a0_5) := (blk_cell BK398.out 5).trans rfl
                have hcz62_6 : wc.cell? ⟨gb398, 6, none⟩ = some (.int .u64 a0_6) := (blk_cell BK398.out 6).trans rfl
                have hcz62_7 : wc.cell? ⟨gb398, 7, none⟩ = some (.bool a0_7) := (blk_cell BK398.out 7).trans rfl
                have hcz62_8 : wc.cell? ⟨gb398, 8, none⟩ = some (.slice A0_8 l0_8.length c0_8) := (blk_cell BK398.out 8).trans rfl
                have hcz62_9 : wc.cell? ⟨gb398, 9, none⟩ = some (.string a0_9) := (blk_cell BK398.out 9).trans rfl
                have hfz62_0 := blk_frozen BK398.out 0
                have hfz62_1 := blk_frozen BK398.out 1
                have hfz62_2 := blk_frozen BK398.out 2
                have hfz62_3 := blk_frozen BK398.out 3
                have hfz62_4 := blk_frozen BK398.out 4
                have hfz62_5 := blk_frozen BK398.out 5
                have hfz62_6 := blk_frozen BK398.out 6
                have hfz62_7 := blk_frozen BK398.out 7
                have hfz62_8 := blk_frozen BK398.out 8
                have hfz62_9 := blk_frozen BK398.out 9
                go_wp2
                go_ret
                exact ⟨by first | rfl | (simp [errW_none, errW_some] <;> rfl) | (simp [*, errW_none, errW_some] <;> rfl), hx_ HB⟩
               ·rw [if_neg c61] at H
                have c61b0 : (a0_4 == 0) = false := beq_eq_false_iff_ne.mpr c61
                have c61b1 : (a0_4 != 0) = true := bne_iff_ne.mpr c61
                obtain rfl := Option.some.inj H
                have hcz63_0 : wc.cell? ⟨gb398, 0, none⟩ = some (.int .i64 a0_0) := (blk_cell BK398.out 0).trans rfl
                have hcz63_1 : wc.cell? ⟨gb398, 1, none⟩ = some (.int .u64 a0_1) := (blk_cell BK398.out 1).trans rfl
                have hcz63_2 : wc.cell? ⟨gb398, 2, none⟩ = some (.int .u64 a0_2) := (blk_cell BK398.out 2).trans rfl
                have hcz63_3 : wc.cell? ⟨gb398, 3, none⟩ = some (.int .u64 a0_3) := (blk_cell BK398.out 3).trans rfl
                have hcz63_4 : wc.cell? ⟨gb398, 4, none⟩ = some (.int .u64 a0_4) := (blk_cell BK398.out 4).trans rfl
                have hcz63_5 : wc.cell? ⟨gb398, 5, none⟩ = some (.int .u64 a0_5) := (blk_cell BK398.out 5).trans rfl
                have hcz63_6 : wc.cell? ⟨gb398, 6, none⟩ = some (.int .u64 a0_6) := (blk_cell BK398.out 6).trans rfl
                have hcz63_7 : wc.cell? ⟨gb398, 7, none⟩ = some (.bool a0_7) := (blk_cell BK398.out 7).trans rfl
                have hcz63_8 : wc.cell? ⟨gb398, 8, none⟩ = some (.slice A0_8 l0_8.length c0_8) := (blk_cell BK398.out 8).trans rfl
                have hcz63_9 : wc.cell? ⟨gb398, 9, none⟩ = some (.string a0_9) := (blk_cell BK398.out 9).trans rfl
                have hfz63_0 := blk_frozen BK398.out 0
                have hfz63_1 := blk_frozen BK398.out 1
                have hfz63_2 := blk_frozen BK398.out 2
                have hfz63_3 := blk_frozen BK398.out 3
                have hfz63_4 := blk_frozen BK398.out 4
                have hfz63_5 := blk_frozen BK398.out 5
                have hfz63_6 := blk_frozen BK398.out 6
                have hfz63_7 := blk_frozen BK398.out 7
                have hfz63_8 := blk_frozen BK398.out 8
                have hfz63_9 := blk_frozen BK398.out 9
                go_wp2
                go_ret
                exact ⟨by first | rfl | (simp [errW_none, errW_some] <;> rfl) | (simp [*, errW_none, errW_some] <;> rfl), hx_ HB⟩
              ·rw [if_neg c60] at H
               have c60b0 : (a0_0 == 4) = false := beq_eq_false_iff_ne.mpr c60
               have c60b1 : (a0_0 != 4) = true := bne_iff_ne.mpr c60
               obtain rfl := Option.some.inj H
               have hcz64_0 : wc.cell? ⟨gb398, 0, none⟩ = some (.int .i64 a0_0) := (blk_cell BK398.out 0).trans rfl
               have hcz64_1 : wc.cell? ⟨gb398, 1, none⟩ = some (.int .u64 a0_1) := (blk_cell BK398.out 1).trans rfl
               have hcz64_2 : wc.cell? ⟨gb398, 2, none⟩ = some (.int .u64 a0_2) := (blk_cell BK398.out 2).trans rfl
               have hcz64_3 : wc.cell? ⟨gb398, 3, none⟩ = some (.int .u64 a0_3) := (blk_cell BK398.out 3).trans rfl
               have hcz64_4 : wc.cell? ⟨gb398, 4, none⟩ = some (.int .u64 a0_4) := (blk_cell BK398.out 4).trans rfl
               have hcz64_5 : wc.cell? ⟨gb398, 5, none⟩ = some (.int .u64 a0_5) := (blk_cell BK398.out 5).trans rfl
               have hcz64_6 : wc.cell? ⟨gb398, 6, none⟩ = some (.int .u64 a0_6) := (blk_cell BK398.out 6).trans rfl
               have hcz64_7 : wc.cell? ⟨gb398, 7, none⟩ = some (.bool a0_7) := (blk_cell BK398.out 7).trans rfl
               have hcz64_8 : wc.cell? ⟨gb398, 8, none⟩ = some (.slice A0_8 l0_8.length c0_8) := (blk_cell BK398.out 8).trans rfl
               have hcz64_9 : wc.cell? ⟨gb398, 9, none⟩ = some (.string a0_9) := (blk_cell BK398.out 9).trans rfl
               have hfz64_0 := blk_frozen BK398.out 0
               have hfz64_1 := blk_frozen BK398.out 1
               have hfz64_2 := blk_frozen BK398.out 2
               have hfz64_3 := blk_frozen BK398.out 3
               have hfz64_4 := blk_frozen BK398.out 4
               have hfz64_5 := blk_frozen BK398.out 5
               have hfz64_6 := blk_frozen BK398.out 6
               have hfz64_7 := blk_frozen BK398.out 7
               have hfz64_8 := blk_frozen BK398.out 8
               have hfz64_9 := blk_frozen BK398.out 9
               go_wp2
               go_ret
               exact ⟨by first | rfl | (simp [errW_none, errW_some] <;> rfl) | (simp [*, errW_none, errW_some] <;> rfl), hx_ HB⟩
end Go.Proofs.Ytfjhlcbpogihmaa.Pr
