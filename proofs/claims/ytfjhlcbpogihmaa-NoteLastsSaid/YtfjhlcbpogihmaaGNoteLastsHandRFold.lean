/- What the program's functions compute, and that they compute it: printed out of the translation by a program of this session's (px.py, over the kit's printer). Conditions: none. -/
import Derived.Test.YtfjhlcbpogihmaaKNoteLasts2
import Derived.Test.YtfjhlcbpogihmaaGNoteLastsRStepC
namespace Go.Proofs.Ytfjhlcbpogihmaa.Pr
open Go.RowKit Go.Proofs.YtfjhlcbpogihmaaW.PrintWords Go.Proofs.YtfjhlcbpogihmaaW.PrintLast Go.Proofs.YtfjhlcbpogihmaaW.PrintMore
attribute [local go_sem] max2_int min2_int max_two min_two max_three min_three max_four min_four
set_option linter.unusedVariables false
set_option linter.unusedSimpArgs false
/-! ### ferruleref04_Fold: function 17 -/
def ferruleref04_Fold.l0 : Nat → List (S39) → Int → Int → Int → Int → Int → ByteArray → List (S75) → Option (Int × Int × Int × Int × ByteArray × (List (S75)))
  | 0, _, _, _, _, _, _, _, _ => none
  | k + 1, x0, x4, x159000, x159001, x159002, x159003, x159004, x159005 => if x4 < (x0.length : Int) then (if 0 ≤ x4 then ((ferruleref04_Step.f k x159000 x159001 x159002 x159003 x159004 x159005 ((rd_T39 x0 x4).f0) ((rd_T39 x0 x4).f1) ((rd_T39 x0 x4).f2) ((rd_T39 x0 x4).f3) ((rd_T39 x0 x4).f4)).bind fun bt160 => (ferruleref04_Fold.l0 k x0 (wrap64 (x4 + 1)) bt160.1 bt160.2.1 bt160.2.2.1 bt160.2.2.2.1 bt160.2.2.2.2.1 bt160.2.2.2.2.2)) else (none)) else (some (x159000, x159001, x159002, x159003, x159004, x159005))
def ferruleref04_Fold.f (k : Nat) (l0 : List (S39)) : Option (Int × Int × Int × Int × ByteArray × (List (S75))) := ferruleref04_Fold.l0 k l0 0 0 0 0 0 (⟨#[]⟩ : ByteArray) ([] : List (S75))
namespace ShHandRFold
theorem am_ {p : Prop} (h : p) : Aside0 p := ⟨h⟩
theorem bx_ {Q P : Prop} (b : Aside0 Q) (h : Q → P := by intro hq_; (with_reducible repeat (first | refine blk_drewN ?_ _ | refine blk_drew ?_ | refine blk_alloc ?_ _)); exact hq_) : P := h b.out
theorem hx_ {Q P : Prop} (b : Aside0 Q) (h : Q → P := by intro hq_; repeat (first | (with_reducible first | exact hq_ | apply below_alloc | apply pw_below_drewN | apply below_drew1 | refine below_set ?_ (Aside0.out (by assumption))) | exact hq_)) : P := h b.out
theorem fz_ {Q G P : Prop} (q : Q) (g : Aside0 G) (h : Q → G → P := by intro q_ g_; first | exact Nat.ne_of_lt (Nat.lt_of_lt_of_le (by have := World.block_lt_of_cell? _ _ q_; first | rwa [add_block] at this | exact this) g_) | (rw [add_block]; exact Nat.ne_of_lt (Nat.lt_of_lt_of_le (by have := World.block_lt_of_cell? _ _ q_; first | rwa [add_block] at this | exact this) g_)) | (show (Addr.add _ _).block ≠ _; rw [add_block]; exact Nat.ne_of_lt (Nat.lt_of_lt_of_le (by have := World.block_lt_of_cell? _ _ q_; first | rwa [add_block] at this | exact this) g_)) | (dsimp only; exact Nat.ne_of_lt (Nat.lt_of_lt_of_le (by have := World.block_lt_of_cell? _ _ q_; first | rwa [add_block] at this | exact this) g_))) : P := h q g.out
theorem vx_ {Q P : Prop} (b : Aside0 Q) (h : Q → P := by intro hq_; (with_reducible repeat (first | apply Kd.V_alloc | apply Kd.V_drewN | apply Kd.V_drew)); exact hq_) : P := h b.out
theorem rx_ {Q P : Prop} (b : Aside0 Q) (h : Q → P := by intro hq_; (with_reducible repeat (first | apply Kd.R_alloc | apply Kd.R_drewN | apply Kd.R_drew)); exact hq_) : P := h b.out
theorem nx_ {Q P : Prop} (b : Aside0 Q) (h : Q → P := by intro hq_; (with_reducible repeat (first | apply Kd.N_alloc | apply Kd.N_drewN | apply Kd.N_drew)); exact hq_) : P := h b.out
abbrev bN0_ : Array Bool := #[false, false, false, false, false, false, false]
abbrev bN1_ : Array Bool := #[false, true, false, false, false, false, false]
abbrev bN2_ : Array Bool := #[false, true, true, false, false, false, false]
abbrev bN3_ : Array Bool := #[false, true, true, true, false, false, false]
abbrev bN4_ : Array Bool := #[true, true, true, true, false, false, false]
abbrev bN5_ : Array Bool := #[true, true, true, true, true, false, false]
abbrev bN6_ : Array Bool := #[true, true, true, true, true, true, false]
abbrev bN7_ : Array Bool := #[true, true, true, true, true, true, true]
theorem hy_ {Q P : Prop} (b : Aside0 Q) (h : Q → P := by intro hq_; repeat (first | (with_reducible first | exact hq_ | apply below_alloc | apply pw_below_drewN | apply below_drew1 | refine below_set ?_ (Aside0.out (by assumption))) | exact hq_ | exact Below.refl _ _)) : P := h b.out
theorem bb_ {w w1 w2 : World} {g : Nat} {o : Obj} (b : Aside0 (w.heap[g]? = some o)) (hb : Below w1.heap.size w1 w2) (h : w.heap[g]? = some o → w1.heap[g]? = some o := by intro hq_; (with_reducible repeat (first | refine blk_drewN ?_ _ | refine blk_drew ?_ | refine blk_alloc ?_ _)); exact hq_) : w2.heap[g]? = some o := blk_below (h b.out) hb
theorem bl_ {w w1 : World} {g : Nat} {o : Obj} (b : Aside0 (w.heap[g]? = some o)) (h : w.heap[g]? = some o → w1.heap[g]? = some o := by intro hq_; (with_reducible repeat (first | refine blk_drewN ?_ _ | refine blk_drew ?_ | refine blk_alloc ?_ _)); exact hq_) : g < w1.heap.size := blk_lt (h b.out)
end ShHandRFold
open ShHandRFold
set_option maxHeartbeats 8000000 in
set_option maxRecDepth 100000 in
theorem ferruleref04_Fold.calls (k : Nat) (A0 : Option Addr) (c0 : Nat) (l0 : List (S39)) (r1 : Int) (r2 : Int) (r3 : Int) (r4 : Int) (r5 : ByteArray) (r6 : List (S75)) (w : World) (hr0 : Kd.C k39 w A0 l0.length l0) (hc0 : l0.length ≤ c0) (h : ferruleref04_Fold.f k l0 = some (r1, r2, r3, r4, r5, r6)) :
  Calls Try.prog 17 #[.slice A0 l0.length c0] w fun e w' => ∃ v5_ : Value, e = .returned (.agg #[.int .u64 r1, .int .u64 r2, .int .u64 r3, .int .u64 r4, .string r5, v5_]) ∧ Kd.R k75 75 w' w.heap.size (fun _ => True) v5_ r6 ∧ Below w.heap.size w w' := by
 have hu30 := Try.underlying30
 have hu39 := Try.underlying39
 have HR0 := am_ hr0
 have HC0 := am_ hc0
 clear hr0 hc0
 have HB := am_ (Below.refl w.heap.size w)
 have H : (ferruleref04_Fold.l0 k l0 0 0 0 0 0 (⟨#[]⟩ : ByteArray) ([] : List (S75))) = some (r1, r2, r3, r4, r5, r6) := h
 clear h
 have H' := am_ H
 clear H
 go_enter Try.func17, Try.ntmps17
 go_wp2_with (first | ((with_reducible refine gate_dst (N := 2) rfl ?_); refine box_event ?hg (N := 2) ?hd (cs := #[.int .u64 0, .int .u64 0, .int .u64 0, .int .u64 0, .string (⟨#[]⟩ : ByteArray), .slice none 0 0]) (t := 30) ?hr ?_; (case hd => rfl); (case hg => rfl); (case hr => first | (go_simp; done) | (go_simp; rfl)); intro gb157 hg w2 hbox hb; have n0_ := am_ (below_step (hy_ HB) hb); have n1_ := am_ (hbox); have n2_ := am_ ((by rw [hg]; exact (below_size (hx_ HB)) : w.heap.size ≤ gb157)); have n3_ := am_ ((by rw [hg]; exact (below_size (hx_ HB)) : w.heap.size ≤ gb157)); clear HB; have HB := n0_; have BK157 := n1_; have GW157 := n2_; have GE157 := n3_; clear n0_ n1_ n2_ n3_; clear hb hbox hg) | ((with_reducible refine gate_dst (N := 3) rfl ?_); refine box_event ?hg (N := 3) ?hd (cs := #[.int .u64 0, .int .u64 0, .int .u64 0, .int .u64 0, .string (⟨#[]⟩ : ByteArray), .slice none 0 0]) (t := 30) ?hr ?_; (case hd => rfl); (case hg => rfl); (case hr => first | (go_simp; done) | (go_simp; rfl)); intro gb158 hg w3 hbox hb; have n0_ := am_ (bb_ BK157 hb); have n1_ := am_ (below_step (hy_ HB) hb); have n2_ := am_ (hbox); have n3_ := am_ ((by rw [hg]; exact (below_size (hx_ HB)) : w.heap.size ≤ gb158)); have n4_ := am_ ((by rw [hg]; exact (below_size (hx_ HB)) : w.heap.size ≤ gb158)); have n5_ := am_ ((by rw [hg]; exact Nat.ne_of_lt (bl_ BK157) : gb157 ≠ gb158)); have n6_ := am_ ((by rw [hg]; exact Nat.ne_of_gt (bl_ BK157) : gb158 ≠ gb157)); clear BK157 HB; have BK157 := n0_; have HB := n1_; have BK158 := n2_; have GW158 := n3_; have GE158 := n4_; have NB157_158 := n5_; have NB158_157 := n6_; clear n0_ n1_ n2_ n3_ n4_ n5_ n6_; clear hb hbox hg; have hnb4 := NB158_157.out; have hnc4 := NB157_158.out; have hcz5_0 : w3.cell? ⟨gb158, 0, none⟩ = some (.int .u64 0) := (blk_cell BK158.out 0).trans rfl; have hcz5_1 : w3.cell? ⟨gb158, 1, none⟩ = some (.int .u64 0) := (blk_cell BK158.out 1).trans rfl; have hcz5_2 : w3.cell? ⟨gb158, 2, none⟩ = some (.int .u64 0) := (blk_cell BK158.out 2).trans rfl; have hcz5_3 : w3.cell? ⟨gb158, 3, none⟩ = some (.int .u64 0) := (blk_cell BK158.out 3).trans rfl; have hcz5_4 : w3.cell? ⟨gb158, 4, none⟩ = some (.string (⟨#[]⟩ : ByteArray)) := (blk_cell BK158.out 4).trans rfl; have hcz5_5 : w3.cell? ⟨gb158, 5, none⟩ = some (.slice none 0 0) := (blk_cell BK158.out 5).trans rfl; have hfz5_0 := blk_frozen BK158.out 0; have hfz5_1 := blk_frozen BK158.out 1; have hfz5_2 := blk_frozen BK158.out 2; have hfz5_3 := blk_frozen BK158.out 3; have hfz5_4 := blk_frozen BK158.out 4; have hfz5_5 := blk_frozen BK158.out 5))
 go_loopg [4] k (fun kq v4 w' => ∃ (x4_1 : Int) (x159000_1 : Int) (x159001_1 : Int) (x159002_1 : Int) (x159003_1 : Int) (x159004_1 : ByteArray) (x159005_1 : List (S75)) (u159005 : Value), v4 = .int .i64 x4_1 ∧ Aside0 (ferruleref04_Fold.l0 kq l0 x4_1 x159000_1 x159001_1 x159002_1 x159003_1 x159004_1 x159005_1 = some (r1, r2, r3, r4, r5, r6)) ∧ Aside0 (kq ≤ k) ∧ Aside0 (Kd.R k75 75 w' w.heap.size (fun _ => True) u159005 x159005_1) ∧ Aside0 (w'.heap[gb157]? = some (.cells #[.int .u64 0, .int .u64 0, .int .u64 0, .int .u64 0, .string (⟨#[]⟩ : ByteArray), (.slice none 0 0)] 30 (0, 0))) ∧ Aside0 (w'.heap[gb158]? = some (.cells #[.int .u64 x159000_1, .int .u64 x159001_1, .int .u64 x159002_1, .int .u64 x159003_1, .string x159004_1, u159005] 30 (0, 0))) ∧ Aside0 (Below w.heap.size w w'))
 case atStart => exact ⟨(0), (0), (0), (0), (0), ((⟨#[]⟩ : ByteArray)), (([] : List (S75))), (.slice none 0 0), (by first | rfl | (simp; done) | (simp [*]; done)), H', ⟨Nat.le_refl _⟩, ⟨by first | exact Kd.R_nil _ _ _ _ _ | exact Kd.N_nil _ _ _ _ _ | exact Kd.V_nil _ _ _ _ _ | exact Kd.Q_nil _ _ _ _ _ | exact Kd.S_nil _ _ _ _ _⟩, ⟨by (with_reducible repeat (first | refine blk_drewN ?_ _ | refine blk_drew ?_ | refine blk_alloc ?_ _)); refine blk_far ?_ NB157_158.out _; (with_reducible repeat (first | refine blk_drewN ?_ _ | refine blk_drew ?_ | refine blk_alloc ?_ _)); refine blk_far ?_ NB157_158.out _; (with_reducible repeat (first | refine blk_drewN ?_ _ | refine blk_drew ?_ | refine blk_alloc ?_ _)); refine blk_far ?_ NB157_158.out _; (with_reducible repeat (first | refine blk_drewN ?_ _ | refine blk_drew ?_ | refine blk_alloc ?_ _)); refine blk_far ?_ NB157_158.out _; (with_reducible repeat (first | refine blk_drewN ?_ _ | refine blk_drew ?_ | refine blk_alloc ?_ _)); refine blk_far ?_ NB157_158.out _; (with_reducible repeat (first | refine blk_drewN ?_ _ | refine blk_drew ?_ | refine blk_alloc ?_ _)); refine blk_far ?_ NB157_158.out _; (with_reducible repeat (first | refine blk_drewN ?_ _ | refine blk_drew ?_ | refine blk_alloc ?_ _)); exact BK157.out⟩, ⟨by (with_reducible repeat (first | refine blk_drewN ?_ _ | refine blk_drew ?_ | refine blk_alloc ?_ _)); refine blk_put (cs := #[.int .u64 0, .int .u64 0, .int .u64 0, .int .u64 0, .string (⟨#[]⟩ : ByteArray), .slice none 0 0]) ?_ 5 _ rfl; (with_reducible repeat (first | refine blk_drewN ?_ _ | refine blk_drew ?_ | refine blk_alloc ?_ _)); refine blk_put (cs := #[.int .u64 0, .int .u64 0, .int .u64 0, .int .u64 0, .string (⟨#[]⟩ : ByteArray), .slice none 0 0]) ?_ 4 _ rfl; (with_reducible repeat (first | refine blk_drewN ?_ _ | refine blk_drew ?_ | refine blk_alloc ?_ _)); refine blk_put (cs := #[.int .u64 0, .int .u64 0, .int .u64 0, .int .u64 0, .string (⟨#[]⟩ : ByteArray), .slice none 0 0]) ?_ 3 _ rfl; (with_reducible repeat (first | refine blk_drewN ?_ _ | refine blk_drew ?_ | refine blk_alloc ?_ _)); refine blk_put (cs := #[.int .u64 0, .int .u64 0, .int .u64 0, .int .u64 0, .string (⟨#[]⟩ : ByteArray), .slice none 0 0]) ?_ 2 _ rfl; (with_reducible repeat (first | refine blk_drewN ?_ _ | refine blk_drew ?_ | refine blk_alloc ?_ _)); refine blk_put (cs := #[.int .u64 0, .int .u64 0, .int .u64 0, .int .u64 0, .string (⟨#[]⟩ : ByteArray), .slice none 0 0]) ?_ 1 _ rfl; (with_reducible repeat (first | refine blk_drewN ?_ _ | refine blk_drew ?_ | refine blk_alloc ?_ _)); refine blk_put (cs := #[.int .u64 0, .int .u64 0, .int .u64 0, .int .u64 0, .string (⟨#[]⟩ : ByteArray), .slice none 0 0]) ?_ 0 _ rfl; (with_reducible repeat (first | refine blk_drewN ?_ _ | refine blk_drew ?_ | refine blk_alloc ?_ _)); exact BK158.out⟩, ⟨hx_ HB⟩⟩
 case round =>
  clear H'
  try clear c1
  try clear p2
  try clear c4
  try clear hcz5_0
  try clear hcz5_1
  try clear hcz5_2
  try clear hcz5_3
  try clear hcz5_4
  try clear hcz5_5
  try clear hfz5_0
  try clear hfz5_1
  try clear hfz5_2
  try clear hfz5_3
  try clear hfz5_4
  try clear hfz5_5
  obtain ⟨x4_1, x159000_1, x159001_1, x159002_1, x159003_1, x159004_1, x159005_1, u159005, rfl, HA, HK1, HO_159005, BK157, BK158, HB⟩ := hrel
  cases gk with
  | zero => exact absurd HA.out (by simp [ferruleref04_Fold.l0])
  | succ k1 =>
   have H := HA.out
   clear HA
   simp only [ferruleref04_Fold.l0] at H
   by_cases c6 : x4_1 < (l0.length : Int)
   ·rw [if_pos c6] at H
    have c6b0 : decide (x4_1 < (l0.length : Int)) = true := decide_eq_true c6
    clear c6
    by_cases c7 : 0 ≤ x4_1
    ·rw [if_pos c7] at H
     have c7b0 : decide (0 ≤ x4_1) = true := decide_eq_true c7
     clear c7
     replace H := Option.bind_eq_some_iff.mp H
     obtain ⟨⟨t160, t161, t162, t163, t164, t165⟩, A80, H⟩ := H
     replace H : (ferruleref04_Fold.l0 k1 l0 (wrap64 (x4_1 + 1)) t160 t161 t162 t163 t164 t165) = some (r1, r2, r3, r4, r5, r6) := H
     have A8 := am_ A80
     clear A80
     have H' := am_ H
     clear H
     try go_wp2
     have n0_ := am_ (Kd.R_drew HO_159005.out)
     have n1_ := am_ (blk_drew BK157.out)
     have n2_ := am_ (blk_drew BK158.out)
     have n3_ := am_ (below_drew1 HB.out)
     clear HO_159005
     clear BK157
     clear BK158
     clear HB
     have HO_159005 := n0_
     have BK157 := n1_
     have BK158 := n2_
     have HB := n3_
     clear n0_ n1_ n2_ n3_
     have p159 : 0 ≤ (x4_1 : Int) := of_decide_eq_true (by first | (with_reducible assumption) | assumption)
     have q159 : x4_1 < (l0.length : Int) := of_decide_eq_true (by first | (with_reducible assumption) | assumption)
     obtain ⟨ad159, e159, hx159_0, hx159_1, hx159_2, hx159_3, hx159_4⟩ := at_T39 HR0.out x4_1 p159 q159
     have hw159_4 := hx159_4
     have hw159_3 := hx159_3
     have hw159_2 := hx159_2
     have hw159_1 := hx159_1
     have hw159_0 := hx159_0
     cases e159
     replace hx159_0 := (HB.out.cell (World.block_lt_of_cell? w _ hx159_0)).trans hx159_0
     replace hx159_1 := (HB.out.cell (World.block_lt_of_cell? w _ hx159_1)).trans hx159_1
     replace hx159_2 := (HB.out.cell (World.block_lt_of_cell? w _ hx159_2)).trans hx159_2
     replace hx159_3 := (HB.out.cell (World.block_lt_of_cell? w _ hx159_3)).trans hx159_3
     replace hx159_4 := (HB.out.cell (World.block_lt_of_cell? w _ hx159_4)).trans hx159_4
     replace p159 := eq_true p159
     replace q159 := eq_true q159
     obtain ⟨Ao10, co10, eo10⟩ := Kd.R_slice HO_159005.out
     (first | subst eo10 | (injection eo10 with f1_ f2_ f3_; have f4_ := f1_.symm; have f5_ := f3_.symm; clear f1_ f2_ f3_; subst f4_; subst f5_))
     refine start_ (n := 7) (S := fun w' => w'.cell? ⟨gb158, 0, none⟩ = some (.int .u64 x159000_1) ∧ w'.cell? ⟨gb158, 1, none⟩ = some (.int .u64 x159001_1) ∧ w'.cell? ⟨gb158, 2, none⟩ = some (.int .u64 x159002_1) ∧ w'.cell? ⟨gb158, 3, none⟩ = some (.int .u64 x159003_1) ∧ w'.cell? ⟨gb158, 4, none⟩ = some (.string x159004_1) ∧ w'.cell? ⟨gb158, 5, none⟩ = some (.slice Ao10 x159005_1.length co10) ∧ w'.cell? (ad159.add ((x4_1).toNat * 5)) = some (.int .i64 ((rd_T39 l0 x4_1).f0)) ∧ w'.cell? ⟨(ad159.add ((x4_1).toNat * 5)).block, (ad159.add ((x4_1).toNat * 5)).off + 1, none⟩ = some (.int .u64 ((rd_T39 l0 x4_1).f1)) ∧ w'.cell? ⟨(ad159.add ((x4_1).toNat * 5)).block, (ad159.add ((x4_1).toNat * 5)).off + 2, none⟩ = some (.int .u64 ((rd_T39 l0 x4_1).f2)) ∧ w'.cell? ⟨(ad159.add ((x4_1).toNat * 5)).block, (ad159.add ((x4_1).toNat * 5)).off + 3, none⟩ = some (.int .u64 ((rd_T39 l0 x4_1).f3)) ∧ w'.cell? ⟨(ad159.add ((x4_1).toNat * 5)).block, (ad159.add ((x4_1).toNat * 5)).off + 4, none⟩ = some (.string ((rd_T39 l0 x4_1).f4))) (ds := [6]) bN0_ (by kernel_rfl) rfl rfl ⟨(blk_cell BK158.out 0).trans rfl, (blk_cell BK158.out 1).trans rfl, (blk_cell BK158.out 2).trans rfl, (blk_cell BK158.out 3).trans rfl, (blk_cell BK158.out 4).trans rfl, (blk_cell BK158.out 5).trans rfl, ((HB.out.cell (World.block_lt_of_cell? w _ hw159_0)).trans hw159_0), ((HB.out.cell (World.block_lt_of_cell? w _ hw159_1)).trans hw159_1), ((HB.out.cell (World.block_lt_of_cell? w _ hw159_2)).trans hw159_2), ((HB.out.cell (World.block_lt_of_cell? w _ hw159_3)).trans hw159_3), ((HB.out.cell (World.block_lt_of_cell? w _ hw159_4)).trans hw159_4)⟩ (fun hHeld => ?_)
     generalize wr.drew = w9 at HO_159005 BK157 BK158 HB hx159_0 hx159_1 hx159_2 hx159_3 hx159_4 hHeld ⊢
     refine pure_ (i := 1) (N := some 13) (v := ?_) (a' := ?_) bN1_ rfl rfl (by kernel_rfl) (fun _ _ _ h => h) (Or.inl ⟨by rfl, ?_⟩) ?_ ?_; rotate_left; (intro w'; go_simp; with_reducible rfl); rotate_left; (simp only [Act.put, List.setIfInBounds_toArray, List.set_cons_zero, List.set_cons_succ, i64_w, i32_w]; rfl)
     refine pure_ (i := 2) (N := some 14) (v := ?_) (a' := ?_) bN2_ rfl rfl (by kernel_rfl) (fun _ _ _ h => h) (Or.inl ⟨by rfl, ?_⟩) ?_ ?_; rotate_left; (intro w'; go_simp; with_reducible rfl); rotate_left; (simp only [Act.put, List.setIfInBounds_toArray, List.set_cons_zero, List.set_cons_succ, i64_w, i32_w]; rfl)
     refine pure_ (i := 3) (N := some 15) (v := ?_) (a' := ?_) bN3_ rfl rfl (by kernel_rfl) (fun _ _ _ h => h) (Or.inl ⟨by rfl, ?_⟩) ?_ ?_; rotate_left; (intro w'; go_simp; with_reducible rfl); rotate_left; (simp only [Act.put, List.setIfInBounds_toArray, List.set_cons_zero, List.set_cons_succ, i64_w, i32_w]; rfl)
     refine take_ (i := 0) (N := some 12) (v := ?_) (a' := ?_) bN4_ rfl rfl (by kernel_rfl) (fun _ _ _ h => h) (Or.inl ⟨by rfl, ?_⟩) hHeld ?_ ?_; rotate_left; (rintro w' ⟨s0, s1, s2, s3, s4, s5, s6, s7, s8, s9, s10⟩; go_simp; with_reducible rfl); rotate_left; (simp only [Act.put, List.setIfInBounds_toArray, List.set_cons_zero, List.set_cons_succ, i64_w, i32_w]; rfl)
     refine take_ (i := 4) (N := some 16) (v := ?_) (a' := ?_) bN5_ rfl rfl (by kernel_rfl) (fun _ _ _ h => h) (Or.inl ⟨by rfl, ?_⟩) hHeld ?_ ?_; rotate_left; (rintro w' ⟨s0, s1, s2, s3, s4, s5, s6, s7, s8, s9, s10⟩; go_simp; with_reducible rfl); rotate_left; (simp only [Act.put, List.setIfInBounds_toArray, List.set_cons_zero, List.set_cons_succ, i64_w, i32_w]; rfl)
     refine one_ (i := 5) (N := some 17) bN6_ rfl rfl (by kernel_rfl) (by decide) (fun K hK => ?_)
     refine goes_ Try.func44 (by kernel_rfl) rfl #[.agg #[.int .u64 x159000_1, .int .u64 x159001_1, .int .u64 x159002_1, .int .u64 x159003_1, .string x159004_1, .slice Ao10 x159005_1.length co10], .agg #[.int .i64 ((rd_T39 l0 x4_1).f0), .int .u64 ((rd_T39 l0 x4_1).f1), .int .u64 ((rd_T39 l0 x4_1).f2), .int .u64 ((rd_T39 l0 x4_1).f3), .string ((rd_T39 l0 x4_1).f4)]] (by rfl) rfl rfl (by (try simp only [List.map_toArray, List.map_cons, List.map_nil]); first | done | rfl | (simp only [List.length_drop, List.length_take]; rfl)) ?_
     with_reducible refine (ferruleref04_Step.calls k1 x159000_1 x159001_1 x159002_1 x159003_1 x159004_1 (fun k_ => some k_ = (.slice Ao10 x159005_1.length co10 : Value).ownBlock) (.slice Ao10 x159005_1.length co10) x159005_1 ((rd_T39 l0 x4_1).f0) ((rd_T39 l0 x4_1).f1) ((rd_T39 l0 x4_1).f2) ((rd_T39 l0 x4_1).f3) ((rd_T39 l0 x4_1).f4) t160 t161 t162 t163 t164 t165 w _ ?side1 ?side2 A8.out).mono ?_
     (case side1 => repeat (first | (with_reducible first | exact HB.out | apply below_alloc | apply pw_below_drewN | apply below_drew1 | refine below_set ?_ GE157.out | refine below_set ?_ GE158.out) | exact HB.out))
     (case side2 => exact Kd.R_tight rfl HO_159005.out)
     rintro e w11 ⟨v166, rfl, ho0, hb, hkp⟩
     refine ⟨_, rfl, ?_⟩
     have n0_ := am_ (blk_kept (bx_ BK157) hkp (fun hs_ => (fun e_ => (Kd.R_ne HO_159005.out BK157.out (by decide)) e_) hs_))
     have n1_ := am_ (blk_kept (bx_ BK158) hkp (fun hs_ => (fun e_ => (Kd.R_ne HO_159005.out BK158.out (by decide)) e_) hs_))
     have n2_ := am_ (Kd.R_mono (ok' := fun k_ => True) ho0 (fun k_ hk_ => trivial))
     have n3_ := am_ (hb)
     clear BK157
     clear BK158
     clear HB
     clear HO_159005
     have BK157 := n0_
     have BK158 := n1_
     have HO167 := n2_
     have HB := n3_
     clear n0_ n1_ n2_ n3_
     (try clear hb)
     (try clear hkp)
     (try clear ho0)
     obtain ⟨Ao17, co17, eo17⟩ := Kd.R_slice HO167.out
     (first | subst eo17 | (injection eo17 with f1_ f2_ f3_; have f4_ := f1_.symm; have f5_ := f3_.symm; clear f1_ f2_ f3_; subst f4_; subst f5_))
     refine hK.out _ _ ⟨(blk_cell BK158.out 0).trans rfl, (blk_cell BK158.out 1).trans rfl, (blk_cell BK158.out 2).trans rfl, (blk_cell BK158.out 3).trans rfl, (blk_cell BK158.out 4).trans rfl, (blk_cell BK158.out 5).trans rfl, ((HB.out.cell (World.block_lt_of_cell? w _ hw159_0)).trans hw159_0), ((HB.out.cell (World.block_lt_of_cell? w _ hw159_1)).trans hw159_1), ((HB.out.cell (World.block_lt_of_cell? w _ hw159_2)).trans hw159_2), ((HB.out.cell (World.block_lt_of_cell? w _ hw159_3)).trans hw159_3), ((HB.out.cell (World.block_lt_of_cell? w _ hw159_4)).trans hw159_4)⟩ (fun hHeld => ?_)
     clear hK K
     refine norm_ (a' := ?_) ?_ ?_
     rotate_left
     ·show Act.put _ (some 17) _ = _
      simp only [Act.put, List.setIfInBounds_toArray, List.set_cons_zero, List.set_cons_succ, i64_w, i32_w]
      rfl
     refine last_ (i := 6) (N := none) bN7_ rfl rfl (by kernel_rfl) (by decide) (fun K hK => ?_)
     have hs12 : w11.cell? ⟨gb158, 0, none⟩ = some (.int .u64 x159000_1) := (blk_cell BK158.out 0).trans rfl
     have hfs12 := blk_frozen BK158.out 0
     have hns12_0 := NB157_158.out
     have hms12_0 := NB158_157.out
     have hs13 : w11.cell? ⟨gb158, 1, none⟩ = some (.int .u64 x159001_1) := (blk_cell BK158.out 1).trans rfl
     have hfs13 := blk_frozen BK158.out 1
     have hns13_0 := NB157_158.out
     have hms13_0 := NB158_157.out
     have hs14 : w11.cell? ⟨gb158, 2, none⟩ = some (.int .u64 x159002_1) := (blk_cell BK158.out 2).trans rfl
     have hfs14 := blk_frozen BK158.out 2
     have hns14_0 := NB157_158.out
     have hms14_0 := NB158_157.out
     have hs15 : w11.cell? ⟨gb158, 3, none⟩ = some (.int .u64 x159003_1) := (blk_cell BK158.out 3).trans rfl
     have hfs15 := blk_frozen BK158.out 3
     have hns15_0 := NB157_158.out
     have hms15_0 := NB158_157.out
     have hs16 : w11.cell? ⟨gb158, 4, none⟩ = some (.string x159004_1) := (blk_cell BK158.out 4).trans rfl
     have hfs16 := blk_frozen BK158.out 4
     have hns16_0 := NB157_158.out
     have hms16_0 := NB158_157.out
     have hs18 : w11.cell? ⟨gb158, 5, none⟩ = some (.slice Ao10 x159005_1.length co10) := (blk_cell BK158.out 5).trans rfl
     have hfs18 := blk_frozen BK158.out 5
     have hns18_0 := NB157_158.out
     have hms18_0 := NB158_157.out
     refine skip_ (w1 := ?_) (by rfl) rfl ?_ ?_
     rotate_left
     ·go_simp
      rfl
     refine hK.out _ _ ?_
     clear hK K
     refine done_ (by kernel_rfl) ?_
     try go_wp2
     go_roundg k1
     case measure => have := HK1.out; omega
     case rel => exact ⟨(wrap64 (x4_1 + 1)), (t160), (t161), (t162), (t163), (t164), (t165), (.slice Ao17 t165.length co17), (by first | rfl | (simp; done) | (simp [*]; done)), H', ⟨by have := HK1.out; omega⟩, ⟨by (with_reducible repeat (first | apply Kd.R_alloc | apply Kd.R_drewN | apply Kd.R_drew)); exact Kd.R_mono (Kd.R_far (p := ⟨gb158, 5, none⟩) (Kd.R_far (p := ⟨gb158, 4, none⟩) (Kd.R_far (p := ⟨gb158, 3, none⟩) (Kd.R_far (p := ⟨gb158, 2, none⟩) (Kd.R_far (p := ⟨gb158, 1, none⟩) (Kd.R_far (p := ⟨gb158, 0, none⟩) (Kd.R_types HO167.out BK158.out (by decide)) (fun _ hk => hk.2) (.int .u64 t160)) (fun _ hk => hk.2) (.int .u64 t161)) (fun _ hk => hk.2) (.int .u64 t162)) (fun _ hk => hk.2) (.int .u64 t163)) (fun _ hk => hk.2) (.string t164)) (fun _ hk => hk.2) (.slice Ao17 t165.length co17)) (fun _ hk => trivial)⟩, ⟨by (with_reducible repeat (first | refine blk_drewN ?_ _ | refine blk_drew ?_ | refine blk_alloc ?_ _)); refine blk_far ?_ NB157_158.out _; (with_reducible repeat (first | refine blk_drewN ?_ _ | refine blk_drew ?_ | refine blk_alloc ?_ _)); refine blk_far ?_ NB157_158.out _; (with_reducible repeat (first | refine blk_drewN ?_ _ | refine blk_drew ?_ | refine blk_alloc ?_ _)); refine blk_far ?_ NB157_158.out _; (with_reducible repeat (first | refine blk_drewN ?_ _ | refine blk_drew ?_ | refine blk_alloc ?_ _)); refine blk_far ?_ NB157_158.out _; (with_reducible repeat (first | refine blk_drewN ?_ _ | refine blk_drew ?_ | refine blk_alloc ?_ _)); refine blk_far ?_ NB157_158.out _; (with_reducible repeat (first | refine blk_drewN ?_ _ | refine blk_drew ?_ | refine blk_alloc ?_ _)); refine blk_far ?_ NB157_158.out _; (with_reducible repeat (first | refine blk_drewN ?_ _ | refine blk_drew ?_ | refine blk_alloc ?_ _)); exact BK157.out⟩, ⟨by (with_reducible repeat (first | refine blk_drewN ?_ _ | refine blk_drew ?_ | refine blk_alloc ?_ _)); refine blk_put (cs := #[.int .u64 t160, .int .u64 t161, .int .u64 t162, .int .u64 t163, .string t164, .slice Ao10 x159005_1.length co10]) ?_ 5 _ rfl; (with_reducible repeat (first | refine blk_drewN ?_ _ | refine blk_drew ?_ | refine blk_alloc ?_ _)); refine blk_put (cs := #[.int .u64 t160, .int .u64 t161, .int .u64 t162, .int .u64 t163, .string x159004_1, .slice Ao10 x159005_1.length co10]) ?_ 4 _ rfl; (with_reducible repeat (first | refine blk_drewN ?_ _ | refine blk_drew ?_ | refine blk_alloc ?_ _)); refine blk_put (cs := #[.int .u64 t160, .int .u64 t161, .int .u64 t162, .int .u64 x159003_1, .string x159004_1, .slice Ao10 x159005_1.length co10]) ?_ 3 _ rfl; (with_reducible repeat (first | refine blk_drewN ?_ _ | refine blk_drew ?_ | refine blk_alloc ?_ _)); refine blk_put (cs := #[.int .u64 t160, .int .u64 t161, .int .u64 x159002_1, .int .u64 x159003_1, .string x159004_1, .slice Ao10 x159005_1.length co10]) ?_ 2 _ rfl; (with_reducible repeat (first | refine blk_drewN ?_ _ | refine blk_drew ?_ | refine blk_alloc ?_ _)); refine blk_put (cs := #[.int .u64 t160, .int .u64 x159001_1, .int .u64 x159002_1, .int .u64 x159003_1, .string x159004_1, .slice Ao10 x159005_1.length co10]) ?_ 1 _ rfl; (with_reducible repeat (first | refine blk_drewN ?_ _ | refine blk_drew ?_ | refine blk_alloc ?_ _)); refine blk_put (cs := #[.int .u64 x159000_1, .int .u64 x159001_1, .int .u64 x159002_1, .int .u64 x159003_1, .string x159004_1, .slice Ao10 x159005_1.length co10]) ?_ 0 _ rfl; (with_reducible repeat (first | refine blk_drewN ?_ _ | refine blk_drew ?_ | refine blk_alloc ?_ _)); exact BK158.out⟩, ⟨hx_ HB⟩⟩
    ·rw [if_neg c7] at H
     exact absurd H (by simp)
   ·rw [if_neg c6] at H
    have c6b0 : decide (x4_1 < (l0.length : Int)) = false := decide_eq_false c6
    clear c6
    simp only [Option.some.injEq, Prod.mk.injEq] at H
    obtain ⟨rfl, rfl, rfl, rfl, rfl, rfl⟩ := H
    have hnb19 := NB158_157.out
    have hnc19 := NB157_158.out
    have hcz20_0 : wr.cell? ⟨gb158, 0, none⟩ = some (.int .u64 x159000_1) := (blk_cell BK158.out 0).trans rfl
    have hcz20_1 : wr.cell? ⟨gb158, 1, none⟩ = some (.int .u64 x159001_1) := (blk_cell BK158.out 1).trans rfl
    have hcz20_2 : wr.cell? ⟨gb158, 2, none⟩ = some (.int .u64 x159002_1) := (blk_cell BK158.out 2).trans rfl
    have hcz20_3 : wr.cell? ⟨gb158, 3, none⟩ = some (.int .u64 x159003_1) := (blk_cell BK158.out 3).trans rfl
    have hcz20_4 : wr.cell? ⟨gb158, 4, none⟩ = some (.string x159004_1) := (blk_cell BK158.out 4).trans rfl
    have hcz20_5 : wr.cell? ⟨gb158, 5, none⟩ = some (u159005) := (blk_cell BK158.out 5).trans rfl
    have hfz20_0 := blk_frozen BK158.out 0
    have hfz20_1 := blk_frozen BK158.out 1
    have hfz20_2 := blk_frozen BK158.out 2
    have hfz20_3 := blk_frozen BK158.out 3
    have hfz20_4 := blk_frozen BK158.out 4
    have hfz20_5 := blk_frozen BK158.out 5
    have hcz21_0 : wr.cell? ⟨gb157, 0, none⟩ = some (.int .u64 0) := (blk_cell BK157.out 0).trans rfl
    have hcz21_1 : wr.cell? ⟨gb157, 1, none⟩ = some (.int .u64 0) := (blk_cell BK157.out 1).trans rfl
    have hcz21_2 : wr.cell? ⟨gb157, 2, none⟩ = some (.int .u64 0) := (blk_cell BK157.out 2).trans rfl
    have hcz21_3 : wr.cell? ⟨gb157, 3, none⟩ = some (.int .u64 0) := (blk_cell BK157.out 3).trans rfl
    have hcz21_4 : wr.cell? ⟨gb157, 4, none⟩ = some (.string (⟨#[]⟩ : ByteArray)) := (blk_cell BK157.out 4).trans rfl
    have hcz21_5 : wr.cell? ⟨gb157, 5, none⟩ = some (.slice none 0 0) := (blk_cell BK157.out 5).trans rfl
    have hfz21_0 := blk_frozen BK157.out 0
    have hfz21_1 := blk_frozen BK157.out 1
    have hfz21_2 := blk_frozen BK157.out 2
    have hfz21_3 := blk_frozen BK157.out 3
    have hfz21_4 := blk_frozen BK157.out 4
    have hfz21_5 := blk_frozen BK157.out 5
    obtain ⟨Ao22, co22, eo22⟩ := Kd.R_slice HO_159005.out
    subst eo22
    go_wp2
    refine bodyPost_ret (results_cell_row rfl _ _ gb157 30 #[.int .u64 x159000_1, .int .u64 x159001_1, .int .u64 x159002_1, .int .u64 x159003_1, .string x159004_1, .slice Ao22 x159005_1.length co22] (0, 0) _ rfl (by (with_reducible repeat (first | refine blk_drewN ?_ _ | refine blk_drew ?_ | refine blk_alloc ?_ _)); refine blk_put (cs := #[.int .u64 x159000_1, .int .u64 x159001_1, .int .u64 x159002_1, .int .u64 x159003_1, .string x159004_1, .slice none 0 0]) ?_ 5 _ rfl; (with_reducible repeat (first | refine blk_drewN ?_ _ | refine blk_drew ?_ | refine blk_alloc ?_ _)); refine blk_put (cs := #[.int .u64 x159000_1, .int .u64 x159001_1, .int .u64 x159002_1, .int .u64 x159003_1, .string (⟨#[]⟩ : ByteArray), .slice none 0 0]) ?_ 4 _ rfl; (with_reducible repeat (first | refine blk_drewN ?_ _ | refine blk_drew ?_ | refine blk_alloc ?_ _)); refine blk_put (cs := #[.int .u64 x159000_1, .int .u64 x159001_1, .int .u64 x159002_1, .int .u64 0, .string (⟨#[]⟩ : ByteArray), .slice none 0 0]) ?_ 3 _ rfl; (with_reducible repeat (first | refine blk_drewN ?_ _ | refine blk_drew ?_ | refine blk_alloc ?_ _)); refine blk_put (cs := #[.int .u64 x159000_1, .int .u64 x159001_1, .int .u64 0, .int .u64 0, .string (⟨#[]⟩ : ByteArray), .slice none 0 0]) ?_ 2 _ rfl; (with_reducible repeat (first | refine blk_drewN ?_ _ | refine blk_drew ?_ | refine blk_alloc ?_ _)); refine blk_put (cs := #[.int .u64 x159000_1, .int .u64 0, .int .u64 0, .int .u64 0, .string (⟨#[]⟩ : ByteArray), .slice none 0 0]) ?_ 1 _ rfl; (with_reducible repeat (first | refine blk_drewN ?_ _ | refine blk_drew ?_ | refine blk_alloc ?_ _)); refine blk_put (cs := #[.int .u64 0, .int .u64 0, .int .u64 0, .int .u64 0, .string (⟨#[]⟩ : ByteArray), .slice none 0 0]) ?_ 0 _ rfl; (with_reducible repeat (first | refine blk_drewN ?_ _ | refine blk_drew ?_ | refine blk_alloc ?_ _)); exact BK157.out) Try.underlying30 rfl (by kernel_rfl)) rfl ?_
    exact ⟨_, by first | rfl | (simp [errW_none, errW_some] <;> rfl) | (simp [*, errW_none, errW_some] <;> rfl), by (with_reducible repeat (first | apply Kd.R_alloc | apply Kd.R_drewN | apply Kd.R_drew)); exact Kd.R_mono (Kd.R_far (p := ⟨gb157, 5, none⟩) (Kd.R_far (p := ⟨gb157, 4, none⟩) (Kd.R_far (p := ⟨gb157, 3, none⟩) (Kd.R_far (p := ⟨gb157, 2, none⟩) (Kd.R_far (p := ⟨gb157, 1, none⟩) (Kd.R_far (p := ⟨gb157, 0, none⟩) (Kd.R_types HO_159005.out BK157.out (by decide)) (fun _ hk => hk.2) (.int .u64 x159000_1)) (fun _ hk => hk.2) (.int .u64 x159001_1)) (fun _ hk => hk.2) (.int .u64 x159002_1)) (fun _ hk => hk.2) (.int .u64 x159003_1)) (fun _ hk => hk.2) (.string x159004_1)) (fun _ hk => hk.2) (.slice Ao22 x159005_1.length co22)) (fun _ hk => trivial), hx_ HB⟩
end Go.Proofs.Ytfjhlcbpogihmaa.Pr
