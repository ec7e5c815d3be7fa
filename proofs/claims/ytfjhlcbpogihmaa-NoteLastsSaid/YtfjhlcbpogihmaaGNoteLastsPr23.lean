/- What the program's functions compute, and that they compute it: printed out of the translation by a program of this session's (px.py, over the kit's printer). Conditions: none. -/
import Derived.Test.YtfjhlcbpogihmaaKNoteLasts2
import Derived.Test.YtfjhlcbpogihmaaGNoteLastsPr6
import Derived.Test.YtfjhlcbpogihmaaGNoteLastsPr8
import Derived.Test.YtfjhlcbpogihmaaGNoteLastsPr12
import Derived.Test.YtfjhlcbpogihmaaKNoteLasts3
import Derived.Test.YtfjhlcbpogihmaaGNoteLastsPr20
import Derived.Test.YtfjhlcbpogihmaaGNoteLastsPr22
import Derived.Test.YtfjhlcbpogihmaaGNoteLastsHandRFold
import Derived.Test.YtfjhlcbpogihmaaGNoteLastsHandRead
namespace Go.Proofs.Ytfjhlcbpogihmaa.Pr
open Go.RowKit Go.Proofs.YtfjhlcbpogihmaaW.PrintWords Go.Proofs.YtfjhlcbpogihmaaW.PrintLast Go.Proofs.YtfjhlcbpogihmaaW.PrintMore
attribute [local go_sem] max2_int min2_int max_two min_two max_three min_three max_four min_four
set_option linter.unusedVariables false
set_option linter.unusedSimpArgs false
/-! ### ferrulelaw04_NoteLasts: function 4 -/
mutual
def ferrulelaw04_NoteLasts.l0 : Nat → List (S39) → Int → Int → Bool → List (S39) → Int → Int → ByteArray → ByteArray → Int → Bool → Option (Bool)
  | 0, _, _, _, _, _, _, _, _, _, _, _ => none
  | k + 1, x0, x1, x2, x7, x9, x10, x11, x245000, x245001, x245002, x245003 => if x11 < (x0.length : Int) then (if 0 ≤ x11 then ((note_Bytes.f k ((rd_T39 x0 x11).f0) ((rd_T39 x0 x11).f1) ((rd_T39 x0 x11).f2) ((rd_T39 x0 x11).f3) ((rd_T39 x0 x11).f4)).bind fun bt246 => (if bt246.2 = 0 then ((ferruleref03_Write.f x245000 x245001 x245002 x245003 bt246.1).bind fun bt248 => (if bt248.2.2.2.2 = 0 then (if x9.length < 2932031007402 then ((some (x9 ++ [(⟨(rd_T39 x0 x11).f0, (rd_T39 x0 x11).f1, (rd_T39 x0 x11).f2, (rd_T39 x0 x11).f3, (rd_T39 x0 x11).f4⟩ : S39)] : List (S39))).bind fun y255 => (if x11 = x1 then ((ferruleref03_Sync.f bt248.1 bt248.2.1 bt248.2.2.1 bt248.2.2.2.1).bind fun bt258 => (ferrulelaw04_NoteLasts.l0 k x0 x1 x2 x7 y255 (y255.length : Int) (wrap64 (x11 + 1)) bt258.1 bt258.2.1 bt258.2.2.1 bt258.2.2.2.1)) else (ferrulelaw04_NoteLasts.l0 k x0 x1 x2 x7 y255 x10 (wrap64 (x11 + 1)) bt248.1 bt248.2.1 bt248.2.2.1 bt248.2.2.2.1))) else (none)) else (some x7))) else (ferrulelaw04_NoteLasts.l0 k x0 x1 x2 x7 x9 x10 (wrap64 (x11 + 1)) x245000 x245001 x245002 x245003))) else (none)) else ((ferruleref03_Crash.f x245000 x245001 x245002 x245003 x2).bind fun bt263 => ((note_Recover.f k bt263.1 bt263.2.1 bt263.2.2.1 bt263.2.2.2).bind fun bt267 => (if bt267.2.2.2.2.2.2.2.2.2.2 = 0 then (if bt267.2.2.2.2.2.2.1.size + bt267.2.2.2.2.2.2.2.1.size ≤ 9223372036854775807 then ((note_Read.f k (bt267.2.2.2.2.2.2.1 ++ bt267.2.2.2.2.2.2.2.1)).bind fun bt282 => (if (bt282.1.length : Int) < x10 then (ferrulelaw04_NoteLasts.j1 k x7 x9 bt282.1 true bt267.1 bt267.2.1 bt267.2.2.1 bt267.2.2.2.1 bt267.2.2.2.2.1 bt267.2.2.2.2.2.1) else (ferrulelaw04_NoteLasts.j1 k x7 x9 bt282.1 (decide ((bt282.1.length : Int) > (x9.length : Int))) bt267.1 bt267.2.1 bt267.2.2.1 bt267.2.2.2.1 bt267.2.2.2.2.1 bt267.2.2.2.2.2.1))) else (none)) else (none))))
def ferrulelaw04_NoteLasts.j1 : Nat → Bool → List (S39) → List (S39) → Bool → Int → Int → Int → Int → ByteArray → List (S75) → Option (Bool)
  | 0, _, _, _, _, _, _, _, _, _, _ => none
  | k + 1, x7, x9, x19, x97, x281000, x281001, x281002, x281003, x281004, x281005 => if x97 = true then (none) else (if 0 ≤ (x19.length : Int) then (if (x19.length : Int) ≤ (x9.length : Int) then ((ferruleref04_Notes.f k x19 (x9.take ((x19.length : Int) : Int).toNat)).bind fun t290 => ((ferruleref04_Fold.f k (x9.take ((x19.length : Int) : Int).toNat)).bind fun bt295 => ((ferruleref04_Same.f k x281000 x281001 x281002 x281003 x281004 x281005 bt295.1 bt295.2.1 bt295.2.2.1 bt295.2.2.2.1 bt295.2.2.2.2.1 bt295.2.2.2.2.2).bind fun t303 => (if x7 = true then (if t290 = true then (some t303) else (none)) else (none))))) else (none)) else (none))
end
def ferrulelaw04_NoteLasts.f (k : Nat) (l0 : List (S39)) (a1 : Int) (a2 : Int) : Option (Bool) := (ferrulelaw04_shown.f).bind fun t243 => (ferrulelaw04_NoteLasts.l0 k l0 a1 a2 t243 ([] : List (S39)) 0 0 (⟨#[]⟩ : ByteArray) (⟨#[]⟩ : ByteArray) (-1) false)
def ferrulelaw04_NoteLasts.T25 : Bool × List (List Nat × List Nat) := (true, [([], []), ([], []), ([], []), ([2], [2]), ([1, 3], [1, 3]), ([4], [4]), ([0, 5, 5], [0, 5]), ([6, 6, 0, 1, 2, 3, 4, 5, 6], [6])])
def ferrulelaw04_NoteLasts.B25 : List Nat := [0, 0, 0, 4, 14, 30, 63, 127]
theorem ferrulelaw04_NoteLasts.tab25 : rtab .any (opsOf Try.f4 25) = ferrulelaw04_NoteLasts.T25 := by kernel_rfl
theorem ferrulelaw04_NoteLasts.bits25 : waitsOk ferrulelaw04_NoteLasts.T25.2 ferrulelaw04_NoteLasts.B25 = true := by kernel_rfl
namespace Sh23
theorem am_ {p : Prop} (h : p) : Aside0 p := ⟨h⟩
theorem bx_ {Q P : Prop} (b : Aside0 Q) (h : Q → P := by intro hq_; (with_reducible repeat (first | refine blk_drewN ?_ _ | refine blk_drew ?_ | refine blk_alloc ?_ _)); exact hq_) : P := h b.out
theorem hx_ {Q P : Prop} (b : Aside0 Q) (h : Q → P := by intro hq_; repeat (first | (with_reducible first | exact hq_ | apply below_alloc | apply pw_below_drewN | apply below_drew1 | refine below_set ?_ (Aside0.out (by assumption))) | exact hq_)) : P := h b.out
theorem fz_ {Q G P : Prop} (q : Q) (g : Aside0 G) (h : Q → G → P := by intro q_ g_; first | exact Nat.ne_of_lt (Nat.lt_of_lt_of_le (by have := World.block_lt_of_cell? _ _ q_; first | rwa [add_block] at this | exact this) g_) | (rw [add_block]; exact Nat.ne_of_lt (Nat.lt_of_lt_of_le (by have := World.block_lt_of_cell? _ _ q_; first | rwa [add_block] at this | exact this) g_)) | (show (Addr.add _ _).block ≠ _; rw [add_block]; exact Nat.ne_of_lt (Nat.lt_of_lt_of_le (by have := World.block_lt_of_cell? _ _ q_; first | rwa [add_block] at this | exact this) g_)) | (dsimp only; exact Nat.ne_of_lt (Nat.lt_of_lt_of_le (by have := World.block_lt_of_cell? _ _ q_; first | rwa [add_block] at this | exact this) g_))) : P := h q g.out
theorem vx_ {Q P : Prop} (b : Aside0 Q) (h : Q → P := by intro hq_; (with_reducible repeat (first | apply Kd.V_alloc | apply Kd.V_drewN | apply Kd.V_drew)); exact hq_) : P := h b.out
theorem rx_ {Q P : Prop} (b : Aside0 Q) (h : Q → P := by intro hq_; (with_reducible repeat (first | apply Kd.R_alloc | apply Kd.R_drewN | apply Kd.R_drew)); exact hq_) : P := h b.out
theorem nx_ {Q P : Prop} (b : Aside0 Q) (h : Q → P := by intro hq_; (with_reducible repeat (first | apply Kd.N_alloc | apply Kd.N_drewN | apply Kd.N_drew)); exact hq_) : P := h b.out
abbrev bN0_ : Array Bool := #[false, false, false, false, false, false, false, false]
abbrev bN1_ : Array Bool := #[false, true, false, false, false, false, false, false]
abbrev bN2_ : Array Bool := #[false, true, true, false, false, false, false, false]
abbrev bN3_ : Array Bool := #[false, true, true, true, false, false, false, false]
abbrev bN4_ : Array Bool := #[false, true, true, true, true, false, false, false]
abbrev bN5_ : Array Bool := #[true, true, true, true, true, false, false, false]
abbrev bN6_ : Array Bool := #[true, true, true, true, true, true, false, false]
abbrev bN7_ : Array Bool := #[true, true, true, true, true, true, true, false]
abbrev bN8_ : Array Bool := #[true, true, true, true, true, true, true, true]
theorem hy_ {Q P : Prop} (b : Aside0 Q) (h : Q → P := by intro hq_; repeat (first | (with_reducible first | exact hq_ | apply below_alloc | apply pw_below_drewN | apply below_drew1 | refine below_set ?_ (Aside0.out (by assumption))) | exact hq_ | exact Below.refl _ _)) : P := h b.out
theorem bb_ {w w1 w2 : World} {g : Nat} {o : Obj} (b : Aside0 (w.heap[g]? = some o)) (hb : Below w1.heap.size w1 w2) (h : w.heap[g]? = some o → w1.heap[g]? = some o := by intro hq_; (with_reducible repeat (first | refine blk_drewN ?_ _ | refine blk_drew ?_ | refine blk_alloc ?_ _)); exact hq_) : w2.heap[g]? = some o := blk_below (h b.out) hb
theorem bl_ {w w1 : World} {g : Nat} {o : Obj} (b : Aside0 (w.heap[g]? = some o)) (h : w.heap[g]? = some o → w1.heap[g]? = some o := by intro hq_; (with_reducible repeat (first | refine blk_drewN ?_ _ | refine blk_drew ?_ | refine blk_alloc ?_ _)); exact hq_) : g < w1.heap.size := blk_lt (h b.out)
end Sh23
open Sh23
set_option maxHeartbeats 8000000 in
set_option maxRecDepth 100000 in
theorem ferrulelaw04_NoteLasts.calls (k : Nat) (A0 : Option Addr) (c0 : Nat) (l0 : List (S39)) (a1 : Int) (a2 : Int) (r : Bool) (w : World) (hr0 : Kd.C k39 w A0 l0.length l0) (hc0 : l0.length ≤ c0) (h : ferrulelaw04_NoteLasts.f k l0 a1 a2 = some r) :
  Calls Try.prog 4 #[.slice A0 l0.length c0, .int .i64 a1, .int .i64 a2] w fun e w' => e = .returned (.bool r) ∧ Below w.heap.size w w' := by
 have hu34 := Try.underlying34
 have hu39 := Try.underlying39
 have hu30 := Try.underlying30
 have HR0 := am_ hr0
 have HC0 := am_ hc0
 clear hr0 hc0
 have HB := am_ (Below.refl w.heap.size w)
 have H : ((ferrulelaw04_shown.f).bind fun t243 => (ferrulelaw04_NoteLasts.l0 k l0 a1 a2 t243 ([] : List (S39)) 0 0 (⟨#[]⟩ : ByteArray) (⟨#[]⟩ : ByteArray) (-1) false)) = some r := h
 clear h
 replace H := Option.bind_eq_some_iff.mp H
 obtain ⟨t243, A40, H⟩ := H
 replace H : (ferrulelaw04_NoteLasts.l0 k l0 a1 a2 t243 ([] : List (S39)) 0 0 (⟨#[]⟩ : ByteArray) (⟨#[]⟩ : ByteArray) (-1) false) = some r := H
 have A4 := am_ A40
 clear A40
 have H' := am_ H
 clear H
 go_enter Try.func4, Try.ntmps4
 go_wp2_with (first | ((with_reducible refine gate_callee (f := 14) rfl ?_); refine goesL_ (some 23) rfl rfl Try.func14 (by kernel_rfl) rfl #[] rfl (by (try simp only [List.map_toArray, List.map_cons, List.map_nil]); first | done | rfl | (simp only [List.length_drop, List.length_take]; rfl)) ?_; (with_reducible refine (ferrulelaw04_shown.calls  t243 _ A4.out).mono ?_); rintro e w5 ⟨rfl, hb⟩; refine ⟨_, rfl, ?_⟩; have n0_ := am_ (below_step (hy_ HB) hb); clear HB; have HB := n0_; clear n0_; (try clear hb); (try clear hb2); (try clear hk); (try clear hi)) | ((with_reducible refine gate_dst (N := 8) rfl ?_); (try (refine gate_guard (by rfl) ?_; dsimp only)); refine box_event ?hg (N := 8) ?hd (cs := #[.string (⟨#[]⟩ : ByteArray), .string (⟨#[]⟩ : ByteArray), .int .i64 0, .bool false]) (t := 34) ?hr ?_; (case hd => rfl); (case hg => rfl); (case hr => first | (go_simp; done) | (go_simp; rfl)); intro gb244 hg w6 hbox hb; have n0_ := am_ (below_step (hy_ HB) hb); have n1_ := am_ (hbox); have n2_ := am_ ((by rw [hg]; exact (below_size (hx_ HB)) : w.heap.size ≤ gb244)); have n3_ := am_ ((by rw [hg]; exact (below_size (hx_ HB)) : w.heap.size ≤ gb244)); clear HB; have HB := n0_; have BK244 := n1_; have GW244 := n2_; have GE244 := n3_; clear n0_ n1_ n2_ n3_; clear hb hbox hg; have hcz7_0 : w6.cell? ⟨gb244, 0, none⟩ = some (.string (⟨#[]⟩ : ByteArray)) := (blk_cell BK244.out 0).trans rfl; have hcz7_1 : w6.cell? ⟨gb244, 1, none⟩ = some (.string (⟨#[]⟩ : ByteArray)) := (blk_cell BK244.out 1).trans rfl; have hcz7_2 : w6.cell? ⟨gb244, 2, none⟩ = some (.int .i64 0) := (blk_cell BK244.out 2).trans rfl; have hcz7_3 : w6.cell? ⟨gb244, 3, none⟩ = some (.bool false) := (blk_cell BK244.out 3).trans rfl; have hfz7_0 := blk_frozen BK244.out 0; have hfz7_1 := blk_frozen BK244.out 1; have hfz7_2 := blk_frozen BK244.out 2; have hfz7_3 := blk_frozen BK244.out 3))
 go_loopg [9, 10, 11] k (fun kq v9 v10 v11 w' => ∃ (x9_1 : List (S39)) (x10_1 : Int) (x11_1 : Int) (x245000_1 : ByteArray) (x245001_1 : ByteArray) (x245002_1 : Int) (x245003_1 : Bool), v10 = .int .i64 x10_1 ∧ v11 = .int .i64 x11_1 ∧ Aside0 (ferrulelaw04_NoteLasts.l0 kq l0 a1 a2 t243 x9_1 x10_1 x11_1 x245000_1 x245001_1 x245002_1 x245003_1 = some r) ∧ Aside0 (kq ≤ k) ∧ Aside0 (Kd.R k39 39 w' w.heap.size (fun _ => True) v9 x9_1) ∧ Aside0 (w'.heap[gb244]? = some (.cells #[.string x245000_1, .string x245001_1, .int .i64 x245002_1, .bool x245003_1] 34 (0, 0))) ∧ Aside0 (Below w.heap.size w w'))
 case atStart => exact ⟨(([] : List (S39))), (0), (0), ((⟨#[]⟩ : ByteArray)), ((⟨#[]⟩ : ByteArray)), ((-1)), (false), (by first | rfl | (simp; done) | (simp [*]; done)), (by first | rfl | (simp; done) | (simp [*]; done)), H', ⟨Nat.le_refl _⟩, ⟨by first | exact Kd.R_nil _ _ _ _ _ | exact Kd.N_nil _ _ _ _ _ | exact Kd.V_nil _ _ _ _ _ | exact Kd.Q_nil _ _ _ _ _ | exact Kd.S_nil _ _ _ _ _⟩, ⟨by (with_reducible repeat (first | refine blk_drewN ?_ _ | refine blk_drew ?_ | refine blk_alloc ?_ _)); refine blk_put (cs := #[.string (⟨#[]⟩ : ByteArray), .string (⟨#[]⟩ : ByteArray), .int .i64 (-1), .bool false]) ?_ 3 _ rfl; (with_reducible repeat (first | refine blk_drewN ?_ _ | refine blk_drew ?_ | refine blk_alloc ?_ _)); refine blk_put (cs := #[.string (⟨#[]⟩ : ByteArray), .string (⟨#[]⟩ : ByteArray), .int .i64 0, .bool false]) ?_ 2 _ rfl; (with_reducible repeat (first | refine blk_drewN ?_ _ | refine blk_drew ?_ | refine blk_alloc ?_ _)); refine blk_put (cs := #[.string (⟨#[]⟩ : ByteArray), .string (⟨#[]⟩ : ByteArray), .int .i64 0, .bool false]) ?_ 1 _ rfl; (with_reducible repeat (first | refine blk_drewN ?_ _ | refine blk_drew ?_ | refine blk_alloc ?_ _)); refine blk_put (cs := #[.string (⟨#[]⟩ : ByteArray), .string (⟨#[]⟩ : ByteArray), .int .i64 0, .bool false]) ?_ 0 _ rfl; (with_reducible repeat (first | refine blk_drewN ?_ _ | refine blk_drew ?_ | refine blk_alloc ?_ _)); exact BK244.out⟩, ⟨hx_ HB⟩⟩
 case round =>
  clear H'
  try clear c1
  try clear p2
  try clear c4
  try clear hcz7_0
  try clear hcz7_1
  try clear hcz7_2
  try clear hcz7_3
  try clear hfz7_0
  try clear hfz7_1
  try clear hfz7_2
  try clear hfz7_3
  obtain ⟨x9_1, x10_1, x11_1, x245000_1, x245001_1, x245002_1, x245003_1, rfl, rfl, HA, HK1, HO_9, BK244, HB⟩ := hrel
  cases gk with
  | zero => exact absurd HA.out (by simp [ferrulelaw04_NoteLasts.l0])
  | succ k1 =>
   have H := HA.out
   clear HA
   simp only [ferrulelaw04_NoteLasts.l0] at H
   by_cases c8 : x11_1 < (l0.length : Int)
   ·rw [if_pos c8] at H
    have c8b0 : decide (x11_1 < (l0.length : Int)) = true := decide_eq_true c8
    clear c8
    by_cases c9 : 0 ≤ x11_1
    ·rw [if_pos c9] at H
     have c9b0 : decide (0 ≤ x11_1) = true := decide_eq_true c9
     clear c9
     replace H := Option.bind_eq_some_iff.mp H
     obtain ⟨⟨t246, t247⟩, A100, H⟩ := H
     replace H : (if t247 = 0 then ((ferruleref03_Write.f x245000_1 x245001_1 x245002_1 x245003_1 t246).bind fun bt248 => (if bt248.2.2.2.2 = 0 then (if x9_1.length < 2932031007402 then ((some (x9_1 ++ [(⟨(rd_T39 l0 x11_1).f0, (rd_T39 l0 x11_1).f1, (rd_T39 l0 x11_1).f2, (rd_T39 l0 x11_1).f3, (rd_T39 l0 x11_1).f4⟩ : S39)] : List (S39))).bind fun y255 => (if x11_1 = a1 then ((ferruleref03_Sync.f bt248.1 bt248.2.1 bt248.2.2.1 bt248.2.2.2.1).bind fun bt258 => (ferrulelaw04_NoteLasts.l0 k1 l0 a1 a2 t243 y255 (y255.length : Int) (wrap64 (x11_1 + 1)) bt258.1 bt258.2.1 bt258.2.2.1 bt258.2.2.2.1)) else (ferrulelaw04_NoteLasts.l0 k1 l0 a1 a2 t243 y255 x10_1 (wrap64 (x11_1 + 1)) bt248.1 bt248.2.1 bt248.2.2.1 bt248.2.2.2.1))) else (none)) else (some t243))) else (ferrulelaw04_NoteLasts.l0 k1 l0 a1 a2 t243 x9_1 x10_1 (wrap64 (x11_1 + 1)) x245000_1 x245001_1 x245002_1 x245003_1)) = some r := H
     have A10 := am_ A100
     clear A100
     by_cases c11 : t247 = 0
     ·rw [if_pos c11] at H
      have c11b0 : (t247 == 0) = true := beq_iff_eq.mpr c11
      have c11b1 : (t247 != 0) = false := bne_eq_false_iff_eq.mpr c11
      clear c11
      replace H := Option.bind_eq_some_iff.mp H
      obtain ⟨⟨t248, t249, t250, t251, t252⟩, A120, H⟩ := H
      replace H : (if t252 = 0 then (if x9_1.length < 2932031007402 then ((some (x9_1 ++ [(⟨(rd_T39 l0 x11_1).f0, (rd_T39 l0 x11_1).f1, (rd_T39 l0 x11_1).f2, (rd_T39 l0 x11_1).f3, (rd_T39 l0 x11_1).f4⟩ : S39)] : List (S39))).bind fun y255 => (if x11_1 = a1 then ((ferruleref03_Sync.f t248 t249 t250 t251).bind fun bt258 => (ferrulelaw04_NoteLasts.l0 k1 l0 a1 a2 t243 y255 (y255.length : Int) (wrap64 (x11_1 + 1)) bt258.1 bt258.2.1 bt258.2.2.1 bt258.2.2.2.1)) else (ferrulelaw04_NoteLasts.l0 k1 l0 a1 a2 t243 y255 x10_1 (wrap64 (x11_1 + 1)) t248 t249 t250 t251))) else (none)) else (some t243)) = some r := H
      have A12 := am_ A120
      clear A120
      by_cases c13 : t252 = 0
      ·rw [if_pos c13] at H
       have c13b0 : (t252 == 0) = true := beq_iff_eq.mpr c13
       have c13b1 : (t252 != 0) = false := bne_eq_false_iff_eq.mpr c13
       clear c13
       by_cases c14 : x9_1.length < 2932031007402
       ·rw [if_pos c14] at H
        have LMc14 := am_ c14
        clear c14
        obtain ⟨y255, hy255⟩ : ∃ y_ : List (S39), y_ = (x9_1 ++ [(⟨(rd_T39 l0 x11_1).f0, (rd_T39 l0 x11_1).f1, (rd_T39 l0 x11_1).f2, (rd_T39 l0 x11_1).f3, (rd_T39 l0 x11_1).f4⟩ : S39)]) := ⟨_, rfl⟩
        replace H : (if x11_1 = a1 then ((ferruleref03_Sync.f t248 t249 t250 t251).bind fun bt258 => (ferrulelaw04_NoteLasts.l0 k1 l0 a1 a2 t243 y255 (y255.length : Int) (wrap64 (x11_1 + 1)) bt258.1 bt258.2.1 bt258.2.2.1 bt258.2.2.2.1)) else (ferrulelaw04_NoteLasts.l0 k1 l0 a1 a2 t243 y255 x10_1 (wrap64 (x11_1 + 1)) t248 t249 t250 t251)) = some r := by first | (rw [hy255]; with_reducible exact H) | (have H2_ := (Option.bind_some _ _).symm.trans H; rw [hy255]; with_reducible exact H2_) | (have H2_ := (Option.bind_some _ _).symm.trans H; with_reducible exact H2_) | with_reducible exact H | (rw [hy255]; exact H) | exact H
        have Ny255 := am_ hy255
        clear hy255
        by_cases c15 : x11_1 = a1
        ·rw [if_pos c15] at H
         have c15b0 : (x11_1 == a1) = true := beq_iff_eq.mpr c15
         have c15b1 : (x11_1 != a1) = false := bne_eq_false_iff_eq.mpr c15
         clear c15
         replace H := Option.bind_eq_some_iff.mp H
         obtain ⟨⟨t258, t259, t260, t261, t262⟩, A160, H⟩ := H
         replace H : (ferrulelaw04_NoteLasts.l0 k1 l0 a1 a2 t243 y255 (y255.length : Int) (wrap64 (x11_1 + 1)) t258 t259 t260 t261) = some r := H
         have A16 := am_ A160
         clear A160
         have H' := am_ H
         clear H
         have p245 : 0 ≤ (x11_1 : Int) := of_decide_eq_true (by first | (with_reducible assumption) | assumption)
         have q245 : x11_1 < (l0.length : Int) := of_decide_eq_true (by first | (with_reducible assumption) | assumption)
         obtain ⟨ad245, e245, hx245_0, hx245_1, hx245_2, hx245_3, hx245_4⟩ := at_T39 HR0.out x11_1 p245 q245
         cases e245
         replace hx245_0 := (HB.out.cell (World.block_lt_of_cell? w _ hx245_0)).trans hx245_0
         replace hx245_1 := (HB.out.cell (World.block_lt_of_cell? w _ hx245_1)).trans hx245_1
         replace hx245_2 := (HB.out.cell (World.block_lt_of_cell? w _ hx245_2)).trans hx245_2
         replace hx245_3 := (HB.out.cell (World.block_lt_of_cell? w _ hx245_3)).trans hx245_3
         replace hx245_4 := (HB.out.cell (World.block_lt_of_cell? w _ hx245_4)).trans hx245_4
         replace p245 := eq_true p245
         replace q245 := eq_true q245
         go_wp2_with (first | ((with_reducible refine gate_callee (f := 18) rfl ?_); refine goesL_ (some 36) rfl rfl Try.func18 (by kernel_rfl) rfl #[.agg #[.int .i64 ((rd_T39 l0 x11_1).f0), .int .u64 ((rd_T39 l0 x11_1).f1), .int .u64 ((rd_T39 l0 x11_1).f2), .int .u64 ((rd_T39 l0 x11_1).f3), .string ((rd_T39 l0 x11_1).f4)]] rfl (by (try simp only [List.map_toArray, List.map_cons, List.map_nil]); first | done | rfl | (simp only [List.length_drop, List.length_take]; rfl)) ?_; (with_reducible refine (note_Bytes.calls k1 ((rd_T39 l0 x11_1).f0) ((rd_T39 l0 x11_1).f1) ((rd_T39 l0 x11_1).f2) ((rd_T39 l0 x11_1).f3) ((rd_T39 l0 x11_1).f4) t246 t247 _ A10.out).mono ?_); rintro e w17 ⟨rfl, hb⟩; refine ⟨_, rfl, ?_⟩; have n0_ := am_ (Kd.R_below (rx_ HO_9) hb); have n1_ := am_ (bb_ BK244 hb); have n2_ := am_ (below_step (hy_ HB) hb); clear HO_9 BK244 HB; have HO_9 := n0_; have BK244 := n1_; have HB := n2_; clear n0_ n1_ n2_; (try clear hb); (try clear hb2); (try clear hk); (try clear hi); have hcz18_0 : w17.cell? ⟨gb244, 0, none⟩ = some (.string x245000_1) := (blk_cell BK244.out 0).trans rfl; have hcz18_1 : w17.cell? ⟨gb244, 1, none⟩ = some (.string x245001_1) := (blk_cell BK244.out 1).trans rfl; have hcz18_2 : w17.cell? ⟨gb244, 2, none⟩ = some (.int .i64 x245002_1) := (blk_cell BK244.out 2).trans rfl; have hcz18_3 : w17.cell? ⟨gb244, 3, none⟩ = some (.bool x245003_1) := (blk_cell BK244.out 3).trans rfl; have hfz18_0 := blk_frozen BK244.out 0; have hfz18_1 := blk_frozen BK244.out 1; have hfz18_2 := blk_frozen BK244.out 2; have hfz18_3 := blk_frozen BK244.out 3) | ((with_reducible refine gate_callee (f := 19) rfl ?_); refine goesL_ (some 44) rfl rfl Try.func19 (by kernel_rfl) rfl #[.agg #[.string x245000_1, .string x245001_1, .int .i64 x245002_1, .bool x245003_1], .string t246] rfl (by (try simp only [List.map_toArray, List.map_cons, List.map_nil]); first | done | rfl | (simp only [List.length_drop, List.length_take]; rfl)) ?_; (with_reducible refine (ferruleref03_Write.calls x245000_1 x245001_1 x245002_1 x245003_1 t246 t248 t249 t250 t251 t252 _ A12.out).mono ?_); rintro e w19 ⟨rfl, hb⟩; refine ⟨_, rfl, ?_⟩; have n0_ := am_ (Kd.R_below (rx_ HO_9) hb); have n1_ := am_ (bb_ BK244 hb); have n2_ := am_ (below_step (hy_ HB) hb); clear HO_9 BK244 HB; have HO_9 := n0_; have BK244 := n1_; have HB := n2_; clear n0_ n1_ n2_; (try clear hb); (try clear hb2); (try clear hk); (try clear hi)) | ((with_reducible refine gate_dst (N := 14) rfl ?_); (try (refine gate_guard (by rfl) ?_; dsimp only)); refine box_event ?hg (N := 14) ?hd (cs := #[.string (⟨#[]⟩ : ByteArray), .string (⟨#[]⟩ : ByteArray), .int .i64 0, .bool false]) (t := 34) ?hr ?_; (case hd => rfl); (case hg => rfl); (case hr => first | (go_simp; done) | (go_simp; rfl)); intro gb253 hg w20 hbox hb; have n0_ := am_ (Kd.R_below (rx_ HO_9) hb); have n1_ := am_ (bb_ BK244 hb); have n2_ := am_ (below_step (hy_ HB) hb); have n3_ := am_ (hbox); have n4_ := am_ ((by rw [hg]; exact (below_size (hx_ HB)) : w.heap.size ≤ gb253)); have n5_ := am_ ((by rw [hg]; exact (below_size (hx_ HB)) : w.heap.size ≤ gb253)); have n6_ := am_ ((by rw [hg]; exact Nat.ne_of_lt (bl_ BK244) : gb244 ≠ gb253)); have n7_ := am_ ((by rw [hg]; exact Nat.ne_of_gt (bl_ BK244) : gb253 ≠ gb244)); clear HO_9 BK244 HB; have HO_9 := n0_; have BK244 := n1_; have HB := n2_; have BK253 := n3_; have GW253 := n4_; have GE253 := n5_; have NB244_253 := n6_; have NB253_244 := n7_; clear n0_ n1_ n2_ n3_ n4_ n5_ n6_ n7_; clear hb hbox hg; have hnb21 := NB253_244.out; have hnc21 := NB244_253.out; have hcz22_0 : w20.cell? ⟨gb253, 0, none⟩ = some (.string (⟨#[]⟩ : ByteArray)) := (blk_cell BK253.out 0).trans rfl; have hcz22_1 : w20.cell? ⟨gb253, 1, none⟩ = some (.string (⟨#[]⟩ : ByteArray)) := (blk_cell BK253.out 1).trans rfl; have hcz22_2 : w20.cell? ⟨gb253, 2, none⟩ = some (.int .i64 0) := (blk_cell BK253.out 2).trans rfl; have hcz22_3 : w20.cell? ⟨gb253, 3, none⟩ = some (.bool false) := (blk_cell BK253.out 3).trans rfl; have hfz22_0 := blk_frozen BK253.out 0; have hfz22_1 := blk_frozen BK253.out 1; have hfz22_2 := blk_frozen BK253.out 2; have hfz22_3 := blk_frozen BK253.out 3; have hcz23_0 : w20.cell? ⟨gb244, 0, none⟩ = some (.string x245000_1) := (blk_cell BK244.out 0).trans rfl; have hcz23_1 : w20.cell? ⟨gb244, 1, none⟩ = some (.string x245001_1) := (blk_cell BK244.out 1).trans rfl; have hcz23_2 : w20.cell? ⟨gb244, 2, none⟩ = some (.int .i64 x245002_1) := (blk_cell BK244.out 2).trans rfl; have hcz23_3 : w20.cell? ⟨gb244, 3, none⟩ = some (.bool x245003_1) := (blk_cell BK244.out 3).trans rfl; have hfz23_0 := blk_frozen BK244.out 0; have hfz23_1 := blk_frozen BK244.out 1; have hfz23_2 := blk_frozen BK244.out 2; have hfz23_3 := blk_frozen BK244.out 3; have p254 : 0 ≤ (x11_1 : Int) := of_decide_eq_true (by first | (with_reducible assumption) | assumption); have q254 : x11_1 < (l0.length : Int) := of_decide_eq_true (by first | (with_reducible assumption) | assumption); obtain ⟨ad254, e254, hx254_0, hx254_1, hx254_2, hx254_3, hx254_4⟩ := at_T39 HR0.out x11_1 p254 q254; obtain rfl : ad245 = ad254 := (by injection e254); have hn254_0 : ad245.block ≠ gb253 := Nat.ne_of_lt (Nat.lt_of_lt_of_le (by have := World.block_lt_of_cell? _ _ hx254_0; first | rwa [add_block] at this | exact this) GW253.out); have hn254_1 : ad245.block ≠ gb253 := Nat.ne_of_lt (Nat.lt_of_lt_of_le (by have := World.block_lt_of_cell? _ _ hx254_0; first | rwa [add_block] at this | exact this) GW253.out); have hn254_2 : ad245.block ≠ gb253 := Nat.ne_of_lt (Nat.lt_of_lt_of_le (by have := World.block_lt_of_cell? _ _ hx254_0; first | rwa [add_block] at this | exact this) GW253.out); have hn254_3 : ad245.block ≠ gb253 := Nat.ne_of_lt (Nat.lt_of_lt_of_le (by have := World.block_lt_of_cell? _ _ hx254_0; first | rwa [add_block] at this | exact this) GW253.out); have hn254_4 : ad245.block ≠ gb244 := Nat.ne_of_lt (Nat.lt_of_lt_of_le (by have := World.block_lt_of_cell? _ _ hx254_0; first | rwa [add_block] at this | exact this) GW244.out); have hn254_5 : ad245.block ≠ gb244 := Nat.ne_of_lt (Nat.lt_of_lt_of_le (by have := World.block_lt_of_cell? _ _ hx254_0; first | rwa [add_block] at this | exact this) GW244.out); have hn254_6 : ad245.block ≠ gb244 := Nat.ne_of_lt (Nat.lt_of_lt_of_le (by have := World.block_lt_of_cell? _ _ hx254_0; first | rwa [add_block] at this | exact this) GW244.out); have hn254_7 : ad245.block ≠ gb244 := Nat.ne_of_lt (Nat.lt_of_lt_of_le (by have := World.block_lt_of_cell? _ _ hx254_0; first | rwa [add_block] at this | exact this) GW244.out); replace hx254_0 := (HB.out.cell (World.block_lt_of_cell? w _ hx254_0)).trans hx254_0; replace hx254_1 := (HB.out.cell (World.block_lt_of_cell? w _ hx254_1)).trans hx254_1; replace hx254_2 := (HB.out.cell (World.block_lt_of_cell? w _ hx254_2)).trans hx254_2; replace hx254_3 := (HB.out.cell (World.block_lt_of_cell? w _ hx254_3)).trans hx254_3; replace hx254_4 := (HB.out.cell (World.block_lt_of_cell? w _ hx254_4)).trans hx254_4; replace hx254_0 := (cell_far (p := ⟨gb253, 0, none⟩) (by first | (rw [add_block]; exact hn254_0) | (show (Addr.add _ _).block ≠ _; rw [add_block]; exact hn254_0) | exact hn254_0) (.string t248)).trans hx254_0; replace hx254_1 := (cell_far (p := ⟨gb253, 0, none⟩) (by first | (rw [add_block]; exact hn254_0) | (show (Addr.add _ _).block ≠ _; rw [add_block]; exact hn254_0) | exact hn254_0) (.string t248)).trans hx254_1; replace hx254_2 := (cell_far (p := ⟨gb253, 0, none⟩) (by first | (rw [add_block]; exact hn254_0) | (show (Addr.add _ _).block ≠ _; rw [add_block]; exact hn254_0) | exact hn254_0) (.string t248)).trans hx254_2; replace hx254_3 := (cell_far (p := ⟨gb253, 0, none⟩) (by first | (rw [add_block]; exact hn254_0) | (show (Addr.add _ _).block ≠ _; rw [add_block]; exact hn254_0) | exact hn254_0) (.string t248)).trans hx254_3; replace hx254_4 := (cell_far (p := ⟨gb253, 0, none⟩) (by first | (rw [add_block]; exact hn254_0) | (show (Addr.add _ _).block ≠ _; rw [add_block]; exact hn254_0) | exact hn254_0) (.string t248)).trans hx254_4; replace hx254_0 := (cell_far (p := ⟨gb253, 1, none⟩) (by first | (rw [add_block]; exact hn254_1) | (show (Addr.add _ _).block ≠ _; rw [add_block]; exact hn254_1) | exact hn254_1) (.string t249)).trans hx254_0; replace hx254_1 := (cell_far (p := ⟨gb253, 1, none⟩) (by first | (rw [add_block]; exact hn254_1) | (show (Addr.add _ _).block ≠ _; rw [add_block]; exact hn254_1) | exact hn254_1) (.string t249)).trans hx254_1; replace hx254_2 := (cell_far (p := ⟨gb253, 1, none⟩) (by first | (rw [add_block]; exact hn254_1) | (show (Addr.add _ _).block ≠ _; rw [add_block]; exact hn254_1) | exact hn254_1) (.string t249)).trans hx254_2; replace hx254_3 := (cell_far (p := ⟨gb253, 1, none⟩) (by first | (rw [add_block]; exact hn254_1) | (show (Addr.add _ _).block ≠ _; rw [add_block]; exact hn254_1) | exact hn254_1) (.string t249)).trans hx254_3; replace hx254_4 := (cell_far (p := ⟨gb253, 1, none⟩) (by first | (rw [add_block]; exact hn254_1) | (show (Addr.add _ _).block ≠ _; rw [add_block]; exact hn254_1) | exact hn254_1) (.string t249)).trans hx254_4; replace hx254_0 := (cell_far (p := ⟨gb253, 2, none⟩) (by first | (rw [add_block]; exact hn254_2) | (show (Addr.add _ _).block ≠ _; rw [add_block]; exact hn254_2) | exact hn254_2) (.int .i64 t250)).trans hx254_0; replace hx254_1 := (cell_far (p := ⟨gb253, 2, none⟩) (by first | (rw [add_block]; exact hn254_2) | (show (Addr.add _ _).block ≠ _; rw [add_block]; exact hn254_2) | exact hn254_2) (.int .i64 t250)).trans hx254_1; replace hx254_2 := (cell_far (p := ⟨gb253, 2, none⟩) (by first | (rw [add_block]; exact hn254_2) | (show (Addr.add _ _).block ≠ _; rw [add_block]; exact hn254_2) | exact hn254_2) (.int .i64 t250)).trans hx254_2; replace hx254_3 := (cell_far (p := ⟨gb253, 2, none⟩) (by first | (rw [add_block]; exact hn254_2) | (show (Addr.add _ _).block ≠ _; rw [add_block]; exact hn254_2) | exact hn254_2) (.int .i64 t250)).trans hx254_3; replace hx254_4 := (cell_far (p := ⟨gb253, 2, none⟩) (by first | (rw [add_block]; exact hn254_2) | (show (Addr.add _ _).block ≠ _; rw [add_block]; exact hn254_2) | exact hn254_2) (.int .i64 t250)).trans hx254_4; replace hx254_0 := (cell_far (p := ⟨gb253, 3, none⟩) (by first | (rw [add_block]; exact hn254_3) | (show (Addr.add _ _).block ≠ _; rw [add_block]; exact hn254_3) | exact hn254_3) (.bool t251)).trans hx254_0; replace hx254_1 := (cell_far (p := ⟨gb253, 3, none⟩) (by first | (rw [add_block]; exact hn254_3) | (show (Addr.add _ _).block ≠ _; rw [add_block]; exact hn254_3) | exact hn254_3) (.bool t251)).trans hx254_1; replace hx254_2 := (cell_far (p := ⟨gb253, 3, none⟩) (by first | (rw [add_block]; exact hn254_3) | (show (Addr.add _ _).block ≠ _; rw [add_block]; exact hn254_3) | exact hn254_3) (.bool t251)).trans hx254_2; replace hx254_3 := (cell_far (p := ⟨gb253, 3, none⟩) (by first | (rw [add_block]; exact hn254_3) | (show (Addr.add _ _).block ≠ _; rw [add_block]; exact hn254_3) | exact hn254_3) (.bool t251)).trans hx254_3; replace hx254_4 := (cell_far (p := ⟨gb253, 3, none⟩) (by first | (rw [add_block]; exact hn254_3) | (show (Addr.add _ _).block ≠ _; rw [add_block]; exact hn254_3) | exact hn254_3) (.bool t251)).trans hx254_4; replace hx254_0 := (cell_far (p := ⟨gb244, 0, none⟩) (by first | (rw [add_block]; exact hn254_4) | (show (Addr.add _ _).block ≠ _; rw [add_block]; exact hn254_4) | exact hn254_4) (.string t248)).trans hx254_0; replace hx254_1 := (cell_far (p := ⟨gb244, 0, none⟩) (by first | (rw [add_block]; exact hn254_4) | (show (Addr.add _ _).block ≠ _; rw [add_block]; exact hn254_4) | exact hn254_4) (.string t248)).trans hx254_1; replace hx254_2 := (cell_far (p := ⟨gb244, 0, none⟩) (by first | (rw [add_block]; exact hn254_4) | (show (Addr.add _ _).block ≠ _; rw [add_block]; exact hn254_4) | exact hn254_4) (.string t248)).trans hx254_2; replace hx254_3 := (cell_far (p := ⟨gb244, 0, none⟩) (by first | (rw [add_block]; exact hn254_4) | (show (Addr.add _ _).block ≠ _; rw [add_block]; exact hn254_4) | exact hn254_4) (.string t248)).trans hx254_3; replace hx254_4 := (cell_far (p := ⟨gb244, 0, none⟩) (by first | (rw [add_block]; exact hn254_4) | (show (Addr.add _ _).block ≠ _; rw [add_block]; exact hn254_4) | exact hn254_4) (.string t248)).trans hx254_4; replace hx254_0 := (cell_far (p := ⟨gb244, 1, none⟩) (by first | (rw [add_block]; exact hn254_5) | (show (Addr.add _ _).block ≠ _; rw [add_block]; exact hn254_5) | exact hn254_5) (.string t249)).trans hx254_0; replace hx254_1 := (cell_far (p := ⟨gb244, 1, none⟩) (by first | (rw [add_block]; exact hn254_5) | (show (Addr.add _ _).block ≠ _; rw [add_block]; exact hn254_5) | exact hn254_5) (.string t249)).trans hx254_1; replace hx254_2 := (cell_far (p := ⟨gb244, 1, none⟩) (by first | (rw [add_block]; exact hn254_5) | (show (Addr.add _ _).block ≠ _; rw [add_block]; exact hn254_5) | exact hn254_5) (.string t249)).trans hx254_2; replace hx254_3 := (cell_far (p := ⟨gb244, 1, none⟩) (by first | (rw [add_block]; exact hn254_5) | (show (Addr.add _ _).block ≠ _; rw [add_block]; exact hn254_5) | exact hn254_5) (.string t249)).trans hx254_3; replace hx254_4 := (cell_far (p := ⟨gb244, 1, none⟩) (by first | (rw [add_block]; exact hn254_5) | (show (Addr.add _ _).block ≠ _; rw [add_block]; exact hn254_5) | exact hn254_5) (.string t249)).trans hx254_4; replace hx254_0 := (cell_far (p := ⟨gb244, 2, none⟩) (by first | (rw [add_block]; exact hn254_6) | (show (Addr.add _ _).block ≠ _; rw [add_block]; exact hn254_6) | exact hn254_6) (.int .i64 t250)).trans hx254_0; replace hx254_1 := (cell_far (p := ⟨gb244, 2, none⟩) (by first | (rw [add_block]; exact hn254_6) | (show (Addr.add _ _).block ≠ _; rw [add_block]; exact hn254_6) | exact hn254_6) (.int .i64 t250)).trans hx254_1; replace hx254_2 := (cell_far (p := ⟨gb244, 2, none⟩) (by first | (rw [add_block]; exact hn254_6) | (show (Addr.add _ _).block ≠ _; rw [add_block]; exact hn254_6) | exact hn254_6) (.int .i64 t250)).trans hx254_2; replace hx254_3 := (cell_far (p := ⟨gb244, 2, none⟩) (by first | (rw [add_block]; exact hn254_6) | (show (Addr.add _ _).block ≠ _; rw [add_block]; exact hn254_6) | exact hn254_6) (.int .i64 t250)).trans hx254_3; replace hx254_4 := (cell_far (p := ⟨gb244, 2, none⟩) (by first | (rw [add_block]; exact hn254_6) | (show (Addr.add _ _).block ≠ _; rw [add_block]; exact hn254_6) | exact hn254_6) (.int .i64 t250)).trans hx254_4; replace hx254_0 := (cell_far (p := ⟨gb244, 3, none⟩) (by first | (rw [add_block]; exact hn254_7) | (show (Addr.add _ _).block ≠ _; rw [add_block]; exact hn254_7) | exact hn254_7) (.bool t251)).trans hx254_0; replace hx254_1 := (cell_far (p := ⟨gb244, 3, none⟩) (by first | (rw [add_block]; exact hn254_7) | (show (Addr.add _ _).block ≠ _; rw [add_block]; exact hn254_7) | exact hn254_7) (.bool t251)).trans hx254_1; replace hx254_2 := (cell_far (p := ⟨gb244, 3, none⟩) (by first | (rw [add_block]; exact hn254_7) | (show (Addr.add _ _).block ≠ _; rw [add_block]; exact hn254_7) | exact hn254_7) (.bool t251)).trans hx254_2; replace hx254_3 := (cell_far (p := ⟨gb244, 3, none⟩) (by first | (rw [add_block]; exact hn254_7) | (show (Addr.add _ _).block ≠ _; rw [add_block]; exact hn254_7) | exact hn254_7) (.bool t251)).trans hx254_3; replace hx254_4 := (cell_far (p := ⟨gb244, 3, none⟩) (by first | (rw [add_block]; exact hn254_7) | (show (Addr.add _ _).block ≠ _; rw [add_block]; exact hn254_7) | exact hn254_7) (.bool t251)).trans hx254_4; clear hn254_0 hn254_1 hn254_2 hn254_3 hn254_4 hn254_5 hn254_6 hn254_7; replace p254 := eq_true p254; replace q254 := eq_true q254) | ((with_reducible refine gate_builtin (b := .append) (xs := #[.tmp 51, .tmp 56]) rfl ?_); (try (refine gate_guard (by rfl) ?_; dsimp only)); at_builtin; refine Kd.R_append k39 (w0 := w) w.heap.size rfl (.tmp 51) (.tmp 56) 22 39 (.agg #[(.int .i64 0), (.int .u64 0), (.int .u64 0), (.int .u64 0), (.string ⟨#[]⟩)]) 48 rfl Try.underlying22 info39 rfl (by decide) (by omega) u9 x9_1 (⟨(rd_T39 l0 x11_1).f0, (rd_T39 l0 x11_1).f1, (rd_T39 l0 x11_1).f2, (rd_T39 l0 x11_1).f3, (rd_T39 l0 x11_1).f4⟩ : S39) [.int .i64 ((rd_T39 l0 x11_1).f0), .int .u64 ((rd_T39 l0 x11_1).f1), .int .u64 ((rd_T39 l0 x11_1).f2), .int .u64 ((rd_T39 l0 x11_1).f3), .string ((rd_T39 l0 x11_1).f4)] (fun _ => True) (fun _ => False) rfl (by first | (go_simp; done) | (go_simp; rfl)) ?aP (fun _ hk => hk.elim) ?aF ?aO ?aB ?aS ?aL ?_; (case aP => exact k39_mkM _ _ _ (⟨(rd_T39 l0 x11_1).f0, (rd_T39 l0 x11_1).f1, (rd_T39 l0 x11_1).f2, (rd_T39 l0 x11_1).f3, (rd_T39 l0 x11_1).f4⟩ : S39)); (case aB => exact (hx_ HB)); (case aF => exact (fun _ _ => trivial)); (case aO => exact (by (with_reducible repeat (first | apply Kd.R_alloc | apply Kd.R_drewN | apply Kd.R_drew)); exact Kd.R_mono (Kd.R_far (p := ⟨gb244, 3, none⟩) (Kd.R_far (p := ⟨gb244, 2, none⟩) (Kd.R_far (p := ⟨gb244, 1, none⟩) (Kd.R_far (p := ⟨gb244, 0, none⟩) (Kd.R_far (p := ⟨gb253, 3, none⟩) (Kd.R_far (p := ⟨gb253, 2, none⟩) (Kd.R_far (p := ⟨gb253, 1, none⟩) (Kd.R_far (p := ⟨gb253, 0, none⟩) (Kd.R_types (Kd.R_types HO_9.out BK253.out (by decide)) BK244.out (by decide)) (fun _ hk => hk.1.2) (.string t248)) (fun _ hk => hk.1.2) (.string t249)) (fun _ hk => hk.1.2) (.int .i64 t250)) (fun _ hk => hk.1.2) (.bool t251)) (fun _ hk => hk.2) (.string t248)) (fun _ hk => hk.2) (.string t249)) (fun _ hk => hk.2) (.int .i64 t250)) (fun _ hk => hk.2) (.bool t251)) (fun _ hk => trivial))); (case aS => exact (below_size (hx_ HB))); (case aL => have := LMc14.out; omega); intro v256 w24 ho hb hg hat; rw [← Ny255.out] at ho; have n0_ := am_ (blk_grown (g := gb244) (o := .cells #[.string t248, .string t249, .int .i64 t250, .bool t251] 34 (0, 0)) (by (with_reducible repeat (first | refine blk_drewN ?_ _ | refine blk_drew ?_ | refine blk_alloc ?_ _)); refine blk_put (cs := #[.string t248, .string t249, .int .i64 t250, .bool x245003_1]) ?_ 3 _ rfl; (with_reducible repeat (first | refine blk_drewN ?_ _ | refine blk_drew ?_ | refine blk_alloc ?_ _)); refine blk_put (cs := #[.string t248, .string t249, .int .i64 x245002_1, .bool x245003_1]) ?_ 2 _ rfl; (with_reducible repeat (first | refine blk_drewN ?_ _ | refine blk_drew ?_ | refine blk_alloc ?_ _)); refine blk_put (cs := #[.string t248, .string x245001_1, .int .i64 x245002_1, .bool x245003_1]) ?_ 1 _ rfl; (with_reducible repeat (first | refine blk_drewN ?_ _ | refine blk_drew ?_ | refine blk_alloc ?_ _)); refine blk_put (cs := #[.string x245000_1, .string x245001_1, .int .i64 x245002_1, .bool x245003_1]) ?_ 0 _ rfl; (with_reducible repeat (first | refine blk_drewN ?_ _ | refine blk_drew ?_ | refine blk_alloc ?_ _)); refine blk_far ?_ NB244_253.out _; (with_reducible repeat (first | refine blk_drewN ?_ _ | refine blk_drew ?_ | refine blk_alloc ?_ _)); refine blk_far ?_ NB244_253.out _; (with_reducible repeat (first | refine blk_drewN ?_ _ | refine blk_drew ?_ | refine blk_alloc ?_ _)); refine blk_far ?_ NB244_253.out _; (with_reducible repeat (first | refine blk_drewN ?_ _ | refine blk_drew ?_ | refine blk_alloc ?_ _)); refine blk_far ?_ NB244_253.out _; (with_reducible repeat (first | refine blk_drewN ?_ _ | refine blk_drew ?_ | refine blk_alloc ?_ _)); exact BK244.out) hg (Kd.R_ne HO_9.out BK244.out (by decide))); have n1_ := am_ (blk_grown (g := gb253) (o := .cells #[.string t248, .string t249, .int .i64 t250, .bool t251] 34 (0, 0)) (by (with_reducible repeat (first | refine blk_drewN ?_ _ | refine blk_drew ?_ | refine blk_alloc ?_ _)); refine blk_far ?_ NB253_244.out _; (with_reducible repeat (first | refine blk_drewN ?_ _ | refine blk_drew ?_ | refine blk_alloc ?_ _)); refine blk_far ?_ NB253_244.out _; (with_reducible repeat (first | refine blk_drewN ?_ _ | refine blk_drew ?_ | refine blk_alloc ?_ _)); refine blk_far ?_ NB253_244.out _; (with_reducible repeat (first | refine blk_drewN ?_ _ | refine blk_drew ?_ | refine blk_alloc ?_ _)); refine blk_far ?_ NB253_244.out _; (with_reducible repeat (first | refine blk_drewN ?_ _ | refine blk_drew ?_ | refine blk_alloc ?_ _)); refine blk_put (cs := #[.string t248, .string t249, .int .i64 t250, .bool false]) ?_ 3 _ rfl; (with_reducible repeat (first | refine blk_drewN ?_ _ | refine blk_drew ?_ | refine blk_alloc ?_ _)); refine blk_put (cs := #[.string t248, .string t249, .int .i64 0, .bool false]) ?_ 2 _ rfl; (with_reducible repeat (first | refine blk_drewN ?_ _ | refine blk_drew ?_ | refine blk_alloc ?_ _)); refine blk_put (cs := #[.string t248, .string (⟨#[]⟩ : ByteArray), .int .i64 0, .bool false]) ?_ 1 _ rfl; (with_reducible repeat (first | refine blk_drewN ?_ _ | refine blk_drew ?_ | refine blk_alloc ?_ _)); refine blk_put (cs := #[.string (⟨#[]⟩ : ByteArray), .string (⟨#[]⟩ : ByteArray), .int .i64 0, .bool false]) ?_ 0 _ rfl; (with_reducible repeat (first | refine blk_drewN ?_ _ | refine blk_drew ?_ | refine blk_alloc ?_ _)); exact BK253.out) hg (Kd.R_ne HO_9.out BK253.out (by decide))); have n2_ := am_ (hb); have n3_ := am_ (ho); clear BK244 BK253 HB HO_9; have BK244 := n0_; have BK253 := n1_; have HB := n2_; have HO257 := n3_; clear n0_ n1_ n2_ n3_; clear ho hb hg hat; have hcz25_0 : w24.cell? ⟨gb244, 0, none⟩ = some (.string t248) := (blk_cell BK244.out 0).trans rfl; have hcz25_1 : w24.cell? ⟨gb244, 1, none⟩ = some (.string t249) := (blk_cell BK244.out 1).trans rfl; have hcz25_2 : w24.cell? ⟨gb244, 2, none⟩ = some (.int .i64 t250) := (blk_cell BK244.out 2).trans rfl; have hcz25_3 : w24.cell? ⟨gb244, 3, none⟩ = some (.bool t251) := (blk_cell BK244.out 3).trans rfl; have hfz25_0 := blk_frozen BK244.out 0; have hfz25_1 := blk_frozen BK244.out 1; have hfz25_2 := blk_frozen BK244.out 2; have hfz25_3 := blk_frozen BK244.out 3) | ((with_reducible refine gate_callee (f := 20) rfl ?_); refine goesL_ (some 63) rfl rfl Try.func20 (by kernel_rfl) rfl #[.agg #[.string t248, .string t249, .int .i64 t250, .bool t251]] rfl (by (try simp only [List.map_toArray, List.map_cons, List.map_nil]); first | done | rfl | (simp only [List.length_drop, List.length_take]; rfl)) ?_; (with_reducible refine (ferruleref03_Sync.calls t248 t249 t250 t251 t258 t259 t260 t261 t262 _ A16.out).mono ?_); rintro e w26 ⟨rfl, hb⟩; refine ⟨_, rfl, ?_⟩; have n0_ := am_ (Kd.R_below (rx_ HO257) hb); have n1_ := am_ (bb_ BK244 hb); have n2_ := am_ (bb_ BK253 hb); have n3_ := am_ (below_step (hy_ HB) hb); clear HO257 BK244 BK253 HB; have HO257 := n0_; have BK244 := n1_; have BK253 := n2_; have HB := n3_; clear n0_ n1_ n2_ n3_; (try clear hb); (try clear hb2); (try clear hk); (try clear hi); have hcz27_0 : w26.cell? ⟨gb244, 0, none⟩ = some (.string t248) := (blk_cell BK244.out 0).trans rfl; have hcz27_1 : w26.cell? ⟨gb244, 1, none⟩ = some (.string t249) := (blk_cell BK244.out 1).trans rfl; have hcz27_2 : w26.cell? ⟨gb244, 2, none⟩ = some (.int .i64 t250) := (blk_cell BK244.out 2).trans rfl; have hcz27_3 : w26.cell? ⟨gb244, 3, none⟩ = some (.bool t251) := (blk_cell BK244.out 3).trans rfl; have hfz27_0 := blk_frozen BK244.out 0; have hfz27_1 := blk_frozen BK244.out 1; have hfz27_2 := blk_frozen BK244.out 2; have hfz27_3 := blk_frozen BK244.out 3; obtain ⟨Ao28, co28, eo28⟩ := Kd.R_slice HO257.out; subst eo28))
         go_roundg k1
         case measure => have := HK1.out; omega
         case rel => exact ⟨(y255), ((y255.length : Int)), (wrap64 (x11_1 + 1)), (t258), (t259), (t260), (t261), (by first | rfl | (simp; done) | (simp [*]; done)), (by first | rfl | (simp; done) | (simp [*]; done)), H', ⟨by have := HK1.out; omega⟩, ⟨by (with_reducible repeat (first | apply Kd.R_alloc | apply Kd.R_drewN | apply Kd.R_drew)); exact Kd.R_mono (Kd.R_far (p := ⟨gb244, 3, none⟩) (Kd.R_far (p := ⟨gb244, 2, none⟩) (Kd.R_far (p := ⟨gb244, 1, none⟩) (Kd.R_far (p := ⟨gb244, 0, none⟩) (Kd.R_types HO257.out BK244.out (by decide)) (fun _ hk => hk.2) (.string t258)) (fun _ hk => hk.2) (.string t259)) (fun _ hk => hk.2) (.int .i64 t260)) (fun _ hk => hk.2) (.bool t261)) (fun _ hk => trivial)⟩, ⟨by (with_reducible repeat (first | refine blk_drewN ?_ _ | refine blk_drew ?_ | refine blk_alloc ?_ _)); refine blk_put (cs := #[.string t258, .string t259, .int .i64 t260, .bool t251]) ?_ 3 _ rfl; (with_reducible repeat (first | refine blk_drewN ?_ _ | refine blk_drew ?_ | refine blk_alloc ?_ _)); refine blk_put (cs := #[.string t258, .string t259, .int .i64 t250, .bool t251]) ?_ 2 _ rfl; (with_reducible repeat (first | refine blk_drewN ?_ _ | refine blk_drew ?_ | refine blk_alloc ?_ _)); refine blk_put (cs := #[.string t258, .string t249, .int .i64 t250, .bool t251]) ?_ 1 _ rfl; (with_reducible repeat (first | refine blk_drewN ?_ _ | refine blk_drew ?_ | refine blk_alloc ?_ _)); refine blk_put (cs := #[.string t248, .string t249, .int .i64 t250, .bool t251]) ?_ 0 _ rfl; (with_reducible repeat (first | refine blk_drewN ?_ _ | refine blk_drew ?_ | refine blk_alloc ?_ _)); exact BK244.out⟩, ⟨hx_ HB⟩⟩
        ·rw [if_neg c15] at H
         have c15b0 : (x11_1 == a1) = false := beq_eq_false_iff_ne.mpr c15
         have c15b1 : (x11_1 != a1) = true := bne_iff_ne.mpr c15
         have H' := am_ H
         clear H
         have p245 : 0 ≤ (x11_1 : Int) := of_decide_eq_true (by first | (with_reducible assumption) | assumption)
         have q245 : x11_1 < (l0.length : Int) := of_decide_eq_true (by first | (with_reducible assumption) | assumption)
         obtain ⟨ad245, e245, hx245_0, hx245_1, hx245_2, hx245_3, hx245_4⟩ := at_T39 HR0.out x11_1 p245 q245
         cases e245
         replace hx245_0 := (HB.out.cell (World.block_lt_of_cell? w _ hx245_0)).trans hx245_0
         replace hx245_1 := (HB.out.cell (World.block_lt_of_cell? w _ hx245_1)).trans hx245_1
         replace hx245_2 := (HB.out.cell (World.block_lt_of_cell? w _ hx245_2)).trans hx245_2
         replace hx245_3 := (HB.out.cell (World.block_lt_of_cell? w _ hx245_3)).trans hx245_3
         replace hx245_4 := (HB.out.cell (World.block_lt_of_cell? w _ hx245_4)).trans hx245_4
         replace p245 := eq_true p245
         replace q245 := eq_true q245
         go_wp2_with (first | ((with_reducible refine gate_callee (f := 18) rfl ?_); refine goesL_ (some 36) rfl rfl Try.func18 (by kernel_rfl) rfl #[.agg #[.int .i64 ((rd_T39 l0 x11_1).f0), .int .u64 ((rd_T39 l0 x11_1).f1), .int .u64 ((rd_T39 l0 x11_1).f2), .int .u64 ((rd_T39 l0 x11_1).f3), .string ((rd_T39 l0 x11_1).f4)]] rfl (by (try simp only [List.map_toArray, List.map_cons, List.map_nil]); first | done | rfl | (simp only [List.length_drop, List.length_take]; rfl)) ?_; (with_reducible refine (note_Bytes.calls k1 ((rd_T39 l0 x11_1).f0) ((rd_T39 l0 x11_1).f1) ((rd_T39 l0 x11_1).f2) ((rd_T39 l0 x11_1).f3) ((rd_T39 l0 x11_1).f4) t246 t247 _ A10.out).mono ?_); rintro e w29 ⟨rfl, hb⟩; refine ⟨_, rfl, ?_⟩; have n0_ := am_ (Kd.R_below (rx_ HO_9) hb); have n1_ := am_ (bb_ BK244 hb); have n2_ := am_ (below_step (hy_ HB) hb); clear HO_9 BK244 HB; have HO_9 := n0_; have BK244 := n1_; have HB := n2_; clear n0_ n1_ n2_; (try clear hb); (try clear hb2); (try clear hk); (try clear hi); have hcz30_0 : w29.cell? ⟨gb244, 0, none⟩ = some (.string x245000_1) := (blk_cell BK244.out 0).trans rfl; have hcz30_1 : w29.cell? ⟨gb244, 1, none⟩ = some (.string x245001_1) := (blk_cell BK244.out 1).trans rfl; have hcz30_2 : w29.cell? ⟨gb244, 2, none⟩ = some (.int .i64 x245002_1) := (blk_cell BK244.out 2).trans rfl; have hcz30_3 : w29.cell? ⟨gb244, 3, none⟩ = some (.bool x245003_1) := (blk_cell BK244.out 3).trans rfl; have hfz30_0 := blk_frozen BK244.out 0; have hfz30_1 := blk_frozen BK244.out 1; have hfz30_2 := blk_frozen BK244.out 2; have hfz30_3 := blk_frozen BK244.out 3) | ((with_reducible refine gate_callee (f := 19) rfl ?_); refine goesL_ (some 44) rfl rfl Try.func19 (by kernel_rfl) rfl #[.agg #[.string x245000_1, .string x245001_1, .int .i64 x245002_1, .bool x245003_1], .string t246] rfl (by (try simp only [List.map_toArray, List.map_cons, List.map_nil]); first | done | rfl | (simp only [List.length_drop, List.length_take]; rfl)) ?_; (with_reducible refine (ferruleref03_Write.calls x245000_1 x245001_1 x245002_1 x245003_1 t246 t248 t249 t250 t251 t252 _ A12.out).mono ?_); rintro e w31 ⟨rfl, hb⟩; refine ⟨_, rfl, ?_⟩; have n0_ := am_ (Kd.R_below (rx_ HO_9) hb); have n1_ := am_ (bb_ BK244 hb); have n2_ := am_ (below_step (hy_ HB) hb); clear HO_9 BK244 HB; have HO_9 := n0_; have BK244 := n1_; have HB := n2_; clear n0_ n1_ n2_; (try clear hb); (try clear hb2); (try clear hk); (try clear hi)) | ((with_reducible refine gate_dst (N := 14) rfl ?_); (try (refine gate_guard (by rfl) ?_; dsimp only)); refine box_event ?hg (N := 14) ?hd (cs := #[.string (⟨#[]⟩ : ByteArray), .string (⟨#[]⟩ : ByteArray), .int .i64 0, .bool false]) (t := 34) ?hr ?_; (case hd => rfl); (case hg => rfl); (case hr => first | (go_simp; done) | (go_simp; rfl)); intro gb253 hg w32 hbox hb; have n0_ := am_ (Kd.R_below (rx_ HO_9) hb); have n1_ := am_ (bb_ BK244 hb); have n2_ := am_ (below_step (hy_ HB) hb); have n3_ := am_ (hbox); have n4_ := am_ ((by rw [hg]; exact (below_size (hx_ HB)) : w.heap.size ≤ gb253)); have n5_ := am_ ((by rw [hg]; exact (below_size (hx_ HB)) : w.heap.size ≤ gb253)); have n6_ := am_ ((by rw [hg]; exact Nat.ne_of_lt (bl_ BK244) : gb244 ≠ gb253)); have n7_ := am_ ((by rw [hg]; exact Nat.ne_of_gt (bl_ BK244) : gb253 ≠ gb244)); clear HO_9 BK244 HB; have HO_9 := n0_; have BK244 := n1_; have HB := n2_; have BK253 := n3_; have GW253 := n4_; have GE253 := n5_; have NB244_253 := n6_; have NB253_244 := n7_; clear n0_ n1_ n2_ n3_ n4_ n5_ n6_ n7_; clear hb hbox hg; have hnb33 := NB253_244.out; have hnc33 := NB244_253.out; have hcz34_0 : w32.cell? ⟨gb253, 0, none⟩ = some (.string (⟨#[]⟩ : ByteArray)) := (blk_cell BK253.out 0).trans rfl; have hcz34_1 : w32.cell? ⟨gb253, 1, none⟩ = some (.string (⟨#[]⟩ : ByteArray)) := (blk_cell BK253.out 1).trans rfl; have hcz34_2 : w32.cell? ⟨gb253, 2, none⟩ = some (.int .i64 0) := (blk_cell BK253.out 2).trans rfl; have hcz34_3 : w32.cell? ⟨gb253, 3, none⟩ = some (.bool false) := (blk_cell BK253.out 3).trans rfl; have hfz34_0 := blk_frozen BK253.out 0; have hfz34_1 := blk_frozen BK253.out 1; have hfz34_2 := blk_frozen BK253.out 2; have hfz34_3 := blk_frozen BK253.out 3; have hcz35_0 : w32.cell? ⟨gb244, 0, none⟩ = some (.string x245000_1) := (blk_cell BK244.out 0).trans rfl; have hcz35_1 : w32.cell? ⟨gb244, 1, none⟩ = some (.string x245001_1) := (blk_cell BK244.out 1).trans rfl; have hcz35_2 : w32.cell? ⟨gb244, 2, none⟩ = some (.int .i64 x245002_1) := (blk_cell BK244.out 2).trans rfl; have hcz35_3 : w32.cell? ⟨gb244, 3, none⟩ = some (.bool x245003_1) := (blk_cell BK244.out 3).trans rfl; have hfz35_0 := blk_frozen BK244.out 0; have hfz35_1 := blk_frozen BK244.out 1; have hfz35_2 := blk_frozen BK244.out 2; have hfz35_3 := blk_frozen BK244.out 3; have p254 : 0 ≤ (x11_1 : Int) := of_decide_eq_true (by first | (with_reducible assumption) | assumption); have q254 : x11_1 < (l0.length : Int) := of_decide_eq_true (by first | (with_reducible assumption) | assumption); obtain ⟨ad254, e254, hx254_0, hx254_1, hx254_2, hx254_3, hx254_4⟩ := at_T39 HR0.out x11_1 p254 q254; obtain rfl : ad245 = ad254 := (by injection e254); have hn254_0 : ad245.block ≠ gb253 := Nat.ne_of_lt (Nat.lt_of_lt_of_le (by have := World.block_lt_of_cell? _ _ hx254_0; first | rwa [add_block] at this | exact this) GW253.out); have hn254_1 : ad245.block ≠ gb253 := Nat.ne_of_lt (Nat.lt_of_lt_of_le (by have := World.block_lt_of_cell? _ _ hx254_0; first | rwa [add_block] at this | exact this) GW253.out); have hn254_2 : ad245.block ≠ gb253 := Nat.ne_of_lt (Nat.lt_of_lt_of_le (by have := World.block_lt_of_cell? _ _ hx254_0; first | rwa [add_block] at this | exact this) GW253.out); have hn254_3 : ad245.block ≠ gb253 := Nat.ne_of_lt (Nat.lt_of_lt_of_le (by have := World.block_lt_of_cell? _ _ hx254_0; first | rwa [add_block] at this | exact this) GW253.out); have hn254_4 : ad245.block ≠ gb244 := Nat.ne_of_lt (Nat.lt_of_lt_of_le (by have := World.block_lt_of_cell? _ _ hx254_0; first | rwa [add_block] at this | exact this) GW244.out); have hn254_5 : ad245.block ≠ gb244 := Nat.ne_of_lt (Nat.lt_of_lt_of_le (by have := World.block_lt_of_cell? _ _ hx254_0; first | rwa [add_block] at this | exact this) GW244.out); have hn254_6 : ad245.block ≠ gb244 := Nat.ne_of_lt (Nat.lt_of_lt_of_le (by have := World.block_lt_of_cell? _ _ hx254_0; first | rwa [add_block] at this | exact this) GW244.out); have hn254_7 : ad245.block ≠ gb244 := Nat.ne_of_lt (Nat.lt_of_lt_of_le (by have := World.block_lt_of_cell? _ _ hx254_0; first | rwa [add_block] at this | exact this) GW244.out); replace hx254_0 := (HB.out.cell (World.block_lt_of_cell? w _ hx254_0)).trans hx254_0; replace hx254_1 := (HB.out.cell (World.block_lt_of_cell? w _ hx254_1)).trans hx254_1; replace hx254_2 := (HB.out.cell (World.block_lt_of_cell? w _ hx254_2)).trans hx254_2; replace hx254_3 := (HB.out.cell (World.block_lt_of_cell? w _ hx254_3)).trans hx254_3; replace hx254_4 := (HB.out.cell (World.block_lt_of_cell? w _ hx254_4)).trans hx254_4; replace hx254_0 := (cell_far (p := ⟨gb253, 0, none⟩) (by first | (rw [add_block]; exact hn254_0) | (show (Addr.add _ _).block ≠ _; rw [add_block]; exact hn254_0) | exact hn254_0) (.string t248)).trans hx254_0; replace hx254_1 := (cell_far (p := ⟨gb253, 0, none⟩) (by first | (rw [add_block]; exact hn254_0) | (show (Addr.add _ _).block ≠ _; rw [add_block]; exact hn254_0) | exact hn254_0) (.string t248)).trans hx254_1; replace hx254_2 := (cell_far (p := ⟨gb253, 0, none⟩) (by first | (rw [add_block]; exact hn254_0) | (show (Addr.add _ _).block ≠ _; rw [add_block]; exact hn254_0) | exact hn254_0) (.string t248)).trans hx254_2; replace hx254_3 := (cell_far (p := ⟨gb253, 0, none⟩) (by first | (rw [add_block]; exact hn254_0) | (show (Addr.add _ _).block ≠ _; rw [add_block]; exact hn254_0) | exact hn254_0) (.string t248)).trans hx254_3; replace hx254_4 := (cell_far (p := ⟨gb253, 0, none⟩) (by first | (rw [add_block]; exact hn254_0) | (show (Addr.add _ _).block ≠ _; rw [add_block]; exact hn254_0) | exact hn254_0) (.string t248)).trans hx254_4; replace hx254_0 := (cell_far (p := ⟨gb253, 1, none⟩) (by first | (rw [add_block]; exact hn254_1) | (show (Addr.add _ _).block ≠ _; rw [add_block]; exact hn254_1) | exact hn254_1) (.string t249)).trans hx254_0; replace hx254_1 := (cell_far (p := ⟨gb253, 1, none⟩) (by first | (rw [add_block]; exact hn254_1) | (show (Addr.add _ _).block ≠ _; rw [add_block]; exact hn254_1) | exact hn254_1) (.string t249)).trans hx254_1; replace hx254_2 := (cell_far (p := ⟨gb253, 1, none⟩) (by first | (rw [add_block]; exact hn254_1) | (show (Addr.add _ _).block ≠ _; rw [add_block]; exact hn254_1) | exact hn254_1) (.string t249)).trans hx254_2; replace hx254_3 := (cell_far (p := ⟨gb253, 1, none⟩) (by first | (rw [add_block]; exact hn254_1) | (show (Addr.add _ _).block ≠ _; rw [add_block]; exact hn254_1) | exact hn254_1) (.string t249)).trans hx254_3; replace hx254_4 := (cell_far (p := ⟨gb253, 1, none⟩) (by first | (rw [add_block]; exact hn254_1) | (show (Addr.add _ _).block ≠ _; rw [add_block]; exact hn254_1) | exact hn254_1) (.string t249)).trans hx254_4; replace hx254_0 := (cell_far (p := ⟨gb253, 2, none⟩) (by first | (rw [add_block]; exact hn254_2) | (show (Addr.add _ _).block ≠ _; rw [add_block]; exact hn254_2) | exact hn254_2) (.int .i64 t250)).trans hx254_0; replace hx254_1 := (cell_far (p := ⟨gb253, 2, none⟩) (by first | (rw [add_block]; exact hn254_2) | (show (Addr.add _ _).block ≠ _; rw [add_block]; exact hn254_2) | exact hn254_2) (.int .i64 t250)).trans hx254_1; replace hx254_2 := (cell_far (p := ⟨gb253, 2, none⟩) (by first | (rw [add_block]; exact hn254_2) | (show (Addr.add _ _).block ≠ _; rw [add_block]; exact hn254_2) | exact hn254_2) (.int .i64 t250)).trans hx254_2; replace hx254_3 := (cell_far (p := ⟨gb253, 2, none⟩) (by first | (rw [add_block]; exact hn254_2) | (show (Addr.add _ _).block ≠ _; rw [add_block]; exact hn254_2) | exact hn254_2) (.int .i64 t250)).trans hx254_3; replace hx254_4 := (cell_far (p := ⟨gb253, 2, none⟩) (by first | (rw [add_block]; exact hn254_2) | (show (Addr.add _ _).block ≠ _; rw [add_block]; exact hn254_2) | exact hn254_2) (.int .i64 t250)).trans hx254_4; replace hx254_0 := (cell_far (p := ⟨gb253, 3, none⟩) (by first | (rw [add_block]; exact hn254_3) | (show (Addr.add _ _).block ≠ _; rw [add_block]; exact hn254_3) | exact hn254_3) (.bool t251)).trans hx254_0; replace hx254_1 := (cell_far (p := ⟨gb253, 3, none⟩) (by first | (rw [add_block]; exact hn254_3) | (show (Addr.add _ _).block ≠ _; rw [add_block]; exact hn254_3) | exact hn254_3) (.bool t251)).trans hx254_1; replace hx254_2 := (cell_far (p := ⟨gb253, 3, none⟩) (by first | (rw [add_block]; exact hn254_3) | (show (Addr.add _ _).block ≠ _; rw [add_block]; exact hn254_3) | exact hn254_3) (.bool t251)).trans hx254_2; replace hx254_3 := (cell_far (p := ⟨gb253, 3, none⟩) (by first | (rw [add_block]; exact hn254_3) | (show (Addr.add _ _).block ≠ _; rw [add_block]; exact hn254_3) | exact hn254_3) (.bool t251)).trans hx254_3; replace hx254_4 := (cell_far (p := ⟨gb253, 3, none⟩) (by first | (rw [add_block]; exact hn254_3) | (show (Addr.add _ _).block ≠ _; rw [add_block]; exact hn254_3) | exact hn254_3) (.bool t251)).trans hx254_4; replace hx254_0 := (cell_far (p := ⟨gb244, 0, none⟩) (by first | (rw [add_block]; exact hn254_4) | (show (Addr.add _ _).block ≠ _; rw [add_block]; exact hn254_4) | exact hn254_4) (.string t248)).trans hx254_0; replace hx254_1 := (cell_far (p := ⟨gb244, 0, none⟩) (by first | (rw [add_block]; exact hn254_4) | (show (Addr.add _ _).block ≠ _; rw [add_block]; exact hn254_4) | exact hn254_4) (.string t248)).trans hx254_1; replace hx254_2 := (cell_far (p := ⟨gb244, 0, none⟩) (by first | (rw [add_block]; exact hn254_4) | (show (Addr.add _ _).block ≠ _; rw [add_block]; exact hn254_4) | exact hn254_4) (.string t248)).trans hx254_2; replace hx254_3 := (cell_far (p := ⟨gb244, 0, none⟩) (by first | (rw [add_block]; exact hn254_4) | (show (Addr.add _ _).block ≠ _; rw [add_block]; exact hn254_4) | exact hn254_4) (.string t248)).trans hx254_3; replace hx254_4 := (cell_far (p := ⟨gb244, 0, none⟩) (by first | (rw [add_block]; exact hn254_4) | (show (Addr.add _ _).block ≠ _; rw [add_block]; exact hn254_4) | exact hn254_4) (.string t248)).trans hx254_4; replace hx254_0 := (cell_far (p := ⟨gb244, 1, none⟩) (by first | (rw [add_block]; exact hn254_5) | (show (Addr.add _ _).block ≠ _; rw [add_block]; exact hn254_5) | exact hn254_5) (.string t249)).trans hx254_0; replace hx254_1 := (cell_far (p := ⟨gb244, 1, none⟩) (by first | (rw [add_block]; exact hn254_5) | (show (Addr.add _ _).block ≠ _; rw [add_block]; exact hn254_5) | exact hn254_5) (.string t249)).trans hx254_1; replace hx254_2 := (cell_far (p := ⟨gb244, 1, none⟩) (by first | (rw [add_block]; exact hn254_5) | (show (Addr.add _ _).block ≠ _; rw [add_block]; exact hn254_5) | exact hn254_5) (.string t249)).trans hx254_2; replace hx254_3 := (cell_far (p := ⟨gb244, 1, none⟩) (by first | (rw [add_block]; exact hn254_5) | (show (Addr.add _ _).block ≠ _; rw [add_block]; exact hn254_5) | exact hn254_5) (.string t249)).trans hx254_3; replace hx254_4 := (cell_far (p := ⟨gb244, 1, none⟩) (by first | (rw [add_block]; exact hn254_5) | (show (Addr.add _ _).block ≠ _; rw [add_block]; exact hn254_5) | exact hn254_5) (.string t249)).trans hx254_4; replace hx254_0 := (cell_far (p := ⟨gb244, 2, none⟩) (by first | (rw [add_block]; exact hn254_6) | (show (Addr.add _ _).block ≠ _; rw [add_block]; exact hn254_6) | exact hn254_6) (.int .i64 t250)).trans hx254_0; replace hx254_1 := (cell_far (p := ⟨gb244, 2, none⟩) (by first | (rw [add_block]; exact hn254_6) | (show (Addr.add _ _).block ≠ _; rw [add_block]; exact hn254_6) | exact hn254_6) (.int .i64 t250)).trans hx254_1; replace hx254_2 := (cell_far (p := ⟨gb244, 2, none⟩) (by first | (rw [add_block]; exact hn254_6) | (show (Addr.add _ _).block ≠ _; rw [add_block]; exact hn254_6) | exact hn254_6) (.int .i64 t250)).trans hx254_2; replace hx254_3 := (cell_far (p := ⟨gb244, 2, none⟩) (by first | (rw [add_block]; exact hn254_6) | (show (Addr.add _ _).block ≠ _; rw [add_block]; exact hn254_6) | exact hn254_6) (.int .i64 t250)).trans hx254_3; replace hx254_4 := (cell_far (p := ⟨gb244, 2, none⟩) (by first | (rw [add_block]; exact hn254_6) | (show (Addr.add _ _).block ≠ _; rw [add_block]; exact hn254_6) | exact hn254_6) (.int .i64 t250)).trans hx254_4; replace hx254_0 := (cell_far (p := ⟨gb244, 3, none⟩) (by first | (rw [add_block]; exact hn254_7) | (show (Addr.add _ _).block ≠ _; rw [add_block]; exact hn254_7) | exact hn254_7) (.bool t251)).trans hx254_0; replace hx254_1 := (cell_far (p := ⟨gb244, 3, none⟩) (by first | (rw [add_block]; exact hn254_7) | (show (Addr.add _ _).block ≠ _; rw [add_block]; exact hn254_7) | exact hn254_7) (.bool t251)).trans hx254_1; replace hx254_2 := (cell_far (p := ⟨gb244, 3, none⟩) (by first | (rw [add_block]; exact hn254_7) | (show (Addr.add _ _).block ≠ _; rw [add_block]; exact hn254_7) | exact hn254_7) (.bool t251)).trans hx254_2; replace hx254_3 := (cell_far (p := ⟨gb244, 3, none⟩) (by first | (rw [add_block]; exact hn254_7) | (show (Addr.add _ _).block ≠ _; rw [add_block]; exact hn254_7) | exact hn254_7) (.bool t251)).trans hx254_3; replace hx254_4 := (cell_far (p := ⟨gb244, 3, none⟩) (by first | (rw [add_block]; exact hn254_7) | (show (Addr.add _ _).block ≠ _; rw [add_block]; exact hn254_7) | exact hn254_7) (.bool t251)).trans hx254_4; clear hn254_0 hn254_1 hn254_2 hn254_3 hn254_4 hn254_5 hn254_6 hn254_7; replace p254 := eq_true p254; replace q254 := eq_true q254) | ((with_reducible refine gate_builtin (b := .append) (xs := #[.tmp 51, .tmp 56]) rfl ?_); (try (refine gate_guard (by rfl) ?_; dsimp only)); at_builtin; refine Kd.R_append k39 (w0 := w) w.heap.size rfl (.tmp 51) (.tmp 56) 22 39 (.agg #[(.int .i64 0), (.int .u64 0), (.int .u64 0), (.int .u64 0), (.string ⟨#[]⟩)]) 48 rfl Try.underlying22 info39 rfl (by decide) (by omega) u9 x9_1 (⟨(rd_T39 l0 x11_1).f0, (rd_T39 l0 x11_1).f1, (rd_T39 l0 x11_1).f2, (rd_T39 l0 x11_1).f3, (rd_T39 l0 x11_1).f4⟩ : S39) [.int .i64 ((rd_T39 l0 x11_1).f0), .int .u64 ((rd_T39 l0 x11_1).f1), .int .u64 ((rd_T39 l0 x11_1).f2), .int .u64 ((rd_T39 l0 x11_1).f3), .string ((rd_T39 l0 x11_1).f4)] (fun _ => True) (fun _ => False) rfl (by first | (go_simp; done) | (go_simp; rfl)) ?aP (fun _ hk => hk.elim) ?aF ?aO ?aB ?aS ?aL ?_; (case aP => exact k39_mkM _ _ _ (⟨(rd_T39 l0 x11_1).f0, (rd_T39 l0 x11_1).f1, (rd_T39 l0 x11_1).f2, (rd_T39 l0 x11_1).f3, (rd_T39 l0 x11_1).f4⟩ : S39)); (case aB => exact (hx_ HB)); (case aF => exact (fun _ _ => trivial)); (case aO => exact (by (with_reducible repeat (first | apply Kd.R_alloc | apply Kd.R_drewN | apply Kd.R_drew)); exact Kd.R_mono (Kd.R_far (p := ⟨gb244, 3, none⟩) (Kd.R_far (p := ⟨gb244, 2, none⟩) (Kd.R_far (p := ⟨gb244, 1, none⟩) (Kd.R_far (p := ⟨gb244, 0, none⟩) (Kd.R_far (p := ⟨gb253, 3, none⟩) (Kd.R_far (p := ⟨gb253, 2, none⟩) (Kd.R_far (p := ⟨gb253, 1, none⟩) (Kd.R_far (p := ⟨gb253, 0, none⟩) (Kd.R_types (Kd.R_types HO_9.out BK253.out (by decide)) BK244.out (by decide)) (fun _ hk => hk.1.2) (.string t248)) (fun _ hk => hk.1.2) (.string t249)) (fun _ hk => hk.1.2) (.int .i64 t250)) (fun _ hk => hk.1.2) (.bool t251)) (fun _ hk => hk.2) (.string t248)) (fun _ hk => hk.2) (.string t249)) (fun _ hk => hk.2) (.int .i64 t250)) (fun _ hk => hk.2) (.bool t251)) (fun _ hk => trivial))); (case aS => exact (below_size (hx_ HB))); (case aL => have := LMc14.out; omega); intro v256 w36 ho hb hg hat; rw [← Ny255.out] at ho; have n0_ := am_ (blk_grown (g := gb244) (o := .cells #[.string t248, .string t249, .int .i64 t250, .bool t251] 34 (0, 0)) (by (with_reducible repeat (first | refine blk_drewN ?_ _ | refine blk_drew ?_ | refine blk_alloc ?_ _)); refine blk_put (cs := #[.string t248, .string t249, .int .i64 t250, .bool x245003_1]) ?_ 3 _ rfl; (with_reducible repeat (first | refine blk_drewN ?_ _ | refine blk_drew ?_ | refine blk_alloc ?_ _)); refine blk_put (cs := #[.string t248, .string t249, .int .i64 x245002_1, .bool x245003_1]) ?_ 2 _ rfl; (with_reducible repeat (first | refine blk_drewN ?_ _ | refine blk_drew ?_ | refine blk_alloc ?_ _)); refine blk_put (cs := #[.string t248, .string x245001_1, .int .i64 x245002_1, .bool x245003_1]) ?_ 1 _ rfl; (with_reducible repeat (first | refine blk_drewN ?_ _ | refine blk_drew ?_ | refine blk_alloc ?_ _)); refine blk_put (cs := #[.string x245000_1, .string x245001_1, .int .i64 x245002_1, .bool x245003_1]) ?_ 0 _ rfl; (with_reducible repeat (first | refine blk_drewN ?_ _ | refine blk_drew ?_ | refine blk_alloc ?_ _)); refine blk_far ?_ NB244_253.out _; (with_reducible repeat (first | refine blk_drewN ?_ _ | refine blk_drew ?_ | refine blk_alloc ?_ _)); refine blk_far ?_ NB244_253.out _; (with_reducible repeat (first | refine blk_drewN ?_ _ | refine blk_drew ?_ | refine blk_alloc ?_ _)); refine blk_far ?_ NB244_253.out _; (with_reducible repeat (first | refine blk_drewN ?_ _ | refine blk_drew ?_ | refine blk_alloc ?_ _)); refine blk_far ?_ NB244_253.out _; (with_reducible repeat (first | refine blk_drewN ?_ _ | refine blk_drew ?_ | refine blk_alloc ?_ _)); exact BK244.out) hg (Kd.R_ne HO_9.out BK244.out (by decide))); have n1_ := am_ (blk_grown (g := gb253) (o := .cells #[.string t248, .string t249, .int .i64 t250, .bool t251] 34 (0, 0)) (by (with_reducible repeat (first | refine blk_drewN ?_ _ | refine blk_drew ?_ | refine blk_alloc ?_ _)); refine blk_far ?_ NB253_244.out _; (with_reducible repeat (first | refine blk_drewN ?_ _ | refine blk_drew ?_ | refine blk_alloc ?_ _)); refine blk_far ?_ NB253_244.out _; (with_reducible repeat (first | refine blk_drewN ?_ _ | refine blk_drew ?_ | refine blk_alloc ?_ _)); refine blk_far ?_ NB253_244.out _; (with_reducible repeat (first | refine blk_drewN ?_ _ | refine blk_drew ?_ | refine blk_alloc ?_ _)); refine blk_far ?_ NB253_244.out _; (with_reducible repeat (first | refine blk_drewN ?_ _ | refine blk_drew ?_ | refine blk_alloc ?_ _)); refine blk_put (cs := #[.string t248, .string t249, .int .i64 t250, .bool false]) ?_ 3 _ rfl; (with_reducible repeat (first | refine blk_drewN ?_ _ | refine blk_drew ?_ | refine blk_alloc ?_ _)); refine blk_put (cs := #[.string t248, .string t249, .int .i64 0, .bool false]) ?_ 2 _ rfl; (with_reducible repeat (first | refine blk_drewN ?_ _ | refine blk_drew ?_ | refine blk_alloc ?_ _)); refine blk_put (cs := #[.string t248, .string (⟨#[]⟩ : ByteArray), .int .i64 0, .bool false]) ?_ 1 _ rfl; (with_reducible repeat (first | refine blk_drewN ?_ _ | refine blk_drew ?_ | refine blk_alloc ?_ _)); refine blk_put (cs := #[.string (⟨#[]⟩ : ByteArray), .string (⟨#[]⟩ : ByteArray), .int .i64 0, .bool false]) ?_ 0 _ rfl; (with_reducible repeat (first | refine blk_drewN ?_ _ | refine blk_drew ?_ | refine blk_alloc ?_ _)); exact BK253.out) hg (Kd.R_ne HO_9.out BK253.out (by decide))); have n2_ := am_ (hb); have n3_ := am_ (ho); clear BK244 BK253 HB HO_9; have BK244 := n0_; have BK253 := n1_; have HB := n2_; have HO257 := n3_; clear n0_ n1_ n2_ n3_; clear ho hb hg hat))
         go_roundg k1
         case measure => have := HK1.out; omega
         case rel => exact ⟨(y255), (x10_1), (wrap64 (x11_1 + 1)), (t248), (t249), (t250), (t251), (by first | rfl | (simp; done) | (simp [*]; done)), (by first | rfl | (simp; done) | (simp [*]; done)), H', ⟨by have := HK1.out; omega⟩, ⟨rx_ HO257⟩, ⟨bx_ BK244⟩, ⟨hx_ HB⟩⟩
       ·rw [if_neg c14] at H
        exact absurd H (by simp)
      ·rw [if_neg c13] at H
       have c13b0 : (t252 == 0) = false := beq_eq_false_iff_ne.mpr c13
       have c13b1 : (t252 != 0) = true := bne_iff_ne.mpr c13
       obtain rfl := Option.some.inj H
       have p245 : 0 ≤ (x11_1 : Int) := of_decide_eq_true (by first | (with_reducible assumption) | assumption)
       have q245 : x11_1 < (l0.length : Int) := of_decide_eq_true (by first | (with_reducible assumption) | assumption)
       obtain ⟨ad245, e245, hx245_0, hx245_1, hx245_2, hx245_3, hx245_4⟩ := at_T39 HR0.out x11_1 p245 q245
       cases e245
       replace hx245_0 := (HB.out.cell (World.block_lt_of_cell? w _ hx245_0)).trans hx245_0
       replace hx245_1 := (HB.out.cell (World.block_lt_of_cell? w _ hx245_1)).trans hx245_1
       replace hx245_2 := (HB.out.cell (World.block_lt_of_cell? w _ hx245_2)).trans hx245_2
       replace hx245_3 := (HB.out.cell (World.block_lt_of_cell? w _ hx245_3)).trans hx245_3
       replace hx245_4 := (HB.out.cell (World.block_lt_of_cell? w _ hx245_4)).trans hx245_4
       replace p245 := eq_true p245
       replace q245 := eq_true q245
       go_wp2_with (first | ((with_reducible refine gate_callee (f := 18) rfl ?_); refine goesL_ (some 36) rfl rfl Try.func18 (by kernel_rfl) rfl #[.agg #[.int .i64 ((rd_T39 l0 x11_1).f0), .int .u64 ((rd_T39 l0 x11_1).f1), .int .u64 ((rd_T39 l0 x11_1).f2), .int .u64 ((rd_T39 l0 x11_1).f3), .string ((rd_T39 l0 x11_1).f4)]] rfl (by (try simp only [List.map_toArray, List.map_cons, List.map_nil]); first | done | rfl | (simp only [List.length_drop, List.length_take]; rfl)) ?_; (with_reducible refine (note_Bytes.calls k1 ((rd_T39 l0 x11_1).f0) ((rd_T39 l0 x11_1).f1) ((rd_T39 l0 x11_1).f2) ((rd_T39 l0 x11_1).f3) ((rd_T39 l0 x11_1).f4) t246 t247 _ A10.out).mono ?_); rintro e w37 ⟨rfl, hb⟩; refine ⟨_, rfl, ?_⟩; have n0_ := am_ (Kd.R_below (rx_ HO_9) hb); have n1_ := am_ (bb_ BK244 hb); have n2_ := am_ (below_step (hy_ HB) hb); clear HO_9 BK244 HB; have HO_9 := n0_; have BK244 := n1_; have HB := n2_; clear n0_ n1_ n2_; (try clear hb); (try clear hb2); (try clear hk); (try clear hi); have hcz38_0 : w37.cell? ⟨gb244, 0, none⟩ = some (.string x245000_1) := (blk_cell BK244.out 0).trans rfl; have hcz38_1 : w37.cell? ⟨gb244, 1, none⟩ = some (.string x245001_1) := (blk_cell BK244.out 1).trans rfl; have hcz38_2 : w37.cell? ⟨gb244, 2, none⟩ = some (.int .i64 x245002_1) := (blk_cell BK244.out 2).trans rfl; have hcz38_3 : w37.cell? ⟨gb244, 3, none⟩ = some (.bool x245003_1) := (blk_cell BK244.out 3).trans rfl; have hfz38_0 := blk_frozen BK244.out 0; have hfz38_1 := blk_frozen BK244.out 1; have hfz38_2 := blk_frozen BK244.out 2; have hfz38_3 := blk_frozen BK244.out 3) | ((with_reducible refine gate_callee (f := 19) rfl ?_); refine goesL_ (some 44) rfl rfl Try.func19 (by kernel_rfl) rfl #[.agg #[.string x245000_1, .string x245001_1, .int .i64 x245002_1, .bool x245003_1], .string t246] rfl (by (try simp only [List.map_toArray, List.map_cons, List.map_nil]); first | done | rfl | (simp only [List.length_drop, List.length_take]; rfl)) ?_; (with_reducible refine (ferruleref03_Write.calls x245000_1 x245001_1 x245002_1 x245003_1 t246 t248 t249 t250 t251 t252 _ A12.out).mono ?_); rintro e w39 ⟨rfl, hb⟩; refine ⟨_, rfl, ?_⟩; have n0_ := am_ (Kd.R_below (rx_ HO_9) hb); have n1_ := am_ (bb_ BK244 hb); have n2_ := am_ (below_step (hy_ HB) hb); clear HO_9 BK244 HB; have HO_9 := n0_; have BK244 := n1_; have HB := n2_; clear n0_ n1_ n2_; (try clear hb); (try clear hb2); (try clear hk); (try clear hi)) | ((with_reducible refine gate_dst (N := 14) rfl ?_); (try (refine gate_guard (by rfl) ?_; dsimp only)); refine box_event ?hg (N := 14) ?hd (cs := #[.string (⟨#[]⟩ : ByteArray), .string (⟨#[]⟩ : ByteArray), .int .i64 0, .bool false]) (t := 34) ?hr ?_; (case hd => rfl); (case hg => rfl); (case hr => first | (go_simp; done) | (go_simp; rfl)); intro gb253 hg w40 hbox hb; have n0_ := am_ (Kd.R_below (rx_ HO_9) hb); have n1_ := am_ (bb_ BK244 hb); have n2_ := am_ (below_step (hy_ HB) hb); have n3_ := am_ (hbox); have n4_ := am_ ((by rw [hg]; exact (below_size (hx_ HB)) : w.heap.size ≤ gb253)); have n5_ := am_ ((by rw [hg]; exact (below_size (hx_ HB)) : w.heap.size ≤ gb253)); have n6_ := am_ ((by rw [hg]; exact Nat.ne_of_lt (bl_ BK244) : gb244 ≠ gb253)); have n7_ := am_ ((by rw [hg]; exact Nat.ne_of_gt (bl_ BK244) : gb253 ≠ gb244)); clear HO_9 BK244 HB; have HO_9 := n0_; have BK244 := n1_; have HB := n2_; have BK253 := n3_; have GW253 := n4_; have GE253 := n5_; have NB244_253 := n6_; have NB253_244 := n7_; clear n0_ n1_ n2_ n3_ n4_ n5_ n6_ n7_; clear hb hbox hg; have hnb41 := NB253_244.out; have hnc41 := NB244_253.out; have hcz42_0 : w40.cell? ⟨gb253, 0, none⟩ = some (.string (⟨#[]⟩ : ByteArray)) := (blk_cell BK253.out 0).trans rfl; have hcz42_1 : w40.cell? ⟨gb253, 1, none⟩ = some (.string (⟨#[]⟩ : ByteArray)) := (blk_cell BK253.out 1).trans rfl; have hcz42_2 : w40.cell? ⟨gb253, 2, none⟩ = some (.int .i64 0) := (blk_cell BK253.out 2).trans rfl; have hcz42_3 : w40.cell? ⟨gb253, 3, none⟩ = some (.bool false) := (blk_cell BK253.out 3).trans rfl; have hfz42_0 := blk_frozen BK253.out 0; have hfz42_1 := blk_frozen BK253.out 1; have hfz42_2 := blk_frozen BK253.out 2; have hfz42_3 := blk_frozen BK253.out 3))
       go_ret
       exact ⟨by first | rfl | (simp [errW_none, errW_some] <;> rfl) | (simp [*, errW_none, errW_some] <;> rfl), hx_ HB⟩
     ·rw [if_neg c11] at H
      have c11b0 : (t247 == 0) = false := beq_eq_false_iff_ne.mpr c11
      have c11b1 : (t247 != 0) = true := bne_iff_ne.mpr c11
      have H' := am_ H
      clear H
      have p245 : 0 ≤ (x11_1 : Int) := of_decide_eq_true (by first | (with_reducible assumption) | assumption)
      have q245 : x11_1 < (l0.length : Int) := of_decide_eq_true (by first | (with_reducible assumption) | assumption)
      obtain ⟨ad245, e245, hx245_0, hx245_1, hx245_2, hx245_3, hx245_4⟩ := at_T39 HR0.out x11_1 p245 q245
      cases e245
      replace hx245_0 := (HB.out.cell (World.block_lt_of_cell? w _ hx245_0)).trans hx245_0
      replace hx245_1 := (HB.out.cell (World.block_lt_of_cell? w _ hx245_1)).trans hx245_1
      replace hx245_2 := (HB.out.cell (World.block_lt_of_cell? w _ hx245_2)).trans hx245_2
      replace hx245_3 := (HB.out.cell (World.block_lt_of_cell? w _ hx245_3)).trans hx245_3
      replace hx245_4 := (HB.out.cell (World.block_lt_of_cell? w _ hx245_4)).trans hx245_4
      replace p245 := eq_true p245
      replace q245 := eq_true q245
      go_wp2_with (first | ((with_reducible refine gate_callee (f := 18) rfl ?_); refine goesL_ (some 36) rfl rfl Try.func18 (by kernel_rfl) rfl #[.agg #[.int .i64 ((rd_T39 l0 x11_1).f0), .int .u64 ((rd_T39 l0 x11_1).f1), .int .u64 ((rd_T39 l0 x11_1).f2), .int .u64 ((rd_T39 l0 x11_1).f3), .string ((rd_T39 l0 x11_1).f4)]] rfl (by (try simp only [List.map_toArray, List.map_cons, List.map_nil]); first | done | rfl | (simp only [List.length_drop, List.length_take]; rfl)) ?_; (with_reducible refine (note_Bytes.calls k1 ((rd_T39 l0 x11_1).f0) ((rd_T39 l0 x11_1).f1) ((rd_T39 l0 x11_1).f2) ((rd_T39 l0 x11_1).f3) ((rd_T39 l0 x11_1).f4) t246 t247 _ A10.out).mono ?_); rintro e w43 ⟨rfl, hb⟩; refine ⟨_, rfl, ?_⟩; have n0_ := am_ (Kd.R_below (rx_ HO_9) hb); have n1_ := am_ (bb_ BK244 hb); have n2_ := am_ (below_step (hy_ HB) hb); clear HO_9 BK244 HB; have HO_9 := n0_; have BK244 := n1_; have HB := n2_; clear n0_ n1_ n2_; (try clear hb); (try clear hb2); (try clear hk); (try clear hi)))
      go_roundg k1
      case measure => have := HK1.out; omega
      case rel => exact ⟨(x9_1), (x10_1), (wrap64 (x11_1 + 1)), (x245000_1), (x245001_1), (x245002_1), (x245003_1), (by first | rfl | (simp; done) | (simp [*]; done)), (by first | rfl | (simp; done) | (simp [*]; done)), H', ⟨by have := HK1.out; omega⟩, ⟨rx_ HO_9⟩, ⟨bx_ BK244⟩, ⟨hx_ HB⟩⟩
    ·rw [if_neg c9] at H
     exact absurd H (by simp)
   ·rw [if_neg c8] at H
    have c8b0 : decide (x11_1 < (l0.length : Int)) = false := decide_eq_false c8
    clear c8
    replace H := Option.bind_eq_some_iff.mp H
    obtain ⟨⟨t263, t264, t265, t266⟩, A440, H⟩ := H
    replace H : ((note_Recover.f k1 t263 t264 t265 t266).bind fun bt267 => (if bt267.2.2.2.2.2.2.2.2.2.2 = 0 then (if bt267.2.2.2.2.2.2.1.size + bt267.2.2.2.2.2.2.2.1.size ≤ 9223372036854775807 then ((note_Read.f k1 (bt267.2.2.2.2.2.2.1 ++ bt267.2.2.2.2.2.2.2.1)).bind fun bt282 => (if (bt282.1.length : Int) < x10_1 then (ferrulelaw04_NoteLasts.j1 k1 t243 x9_1 bt282.1 true bt267.1 bt267.2.1 bt267.2.2.1 bt267.2.2.2.1 bt267.2.2.2.2.1 bt267.2.2.2.2.2.1) else (ferrulelaw04_NoteLasts.j1 k1 t243 x9_1 bt282.1 (decide ((bt282.1.length : Int) > (x9_1.length : Int))) bt267.1 bt267.2.1 bt267.2.2.1 bt267.2.2.2.1 bt267.2.2.2.2.1 bt267.2.2.2.2.2.1))) else (none)) else (none))) = some r := H
    have A44 := am_ A440
    clear A440
    replace H := Option.bind_eq_some_iff.mp H
    obtain ⟨⟨t267, t268, t269, t270, t271, t272, t275, t276, t277, t278, t279⟩, A450, H⟩ := H
    replace H : (if t279 = 0 then (if t275.size + t276.size ≤ 9223372036854775807 then ((note_Read.f k1 (t275 ++ t276)).bind fun bt282 => (if (bt282.1.length : Int) < x10_1 then (ferrulelaw04_NoteLasts.j1 k1 t243 x9_1 bt282.1 true t267 t268 t269 t270 t271 t272) else (ferrulelaw04_NoteLasts.j1 k1 t243 x9_1 bt282.1 (decide ((bt282.1.length : Int) > (x9_1.length : Int))) t267 t268 t269 t270 t271 t272))) else (none)) else (none)) = some r := H
    have A45 := am_ A450
    clear A450
    by_cases c46 : t279 = 0
    ·rw [if_pos c46] at H
     have c46b0 : (t279 == 0) = true := beq_iff_eq.mpr c46
     have c46b1 : (t279 != 0) = false := bne_eq_false_iff_eq.mpr c46
     clear c46
     by_cases c47 : t275.size + t276.size ≤ 9223372036854775807
     ·rw [if_pos c47] at H
      have c47b0 := eq_true c47
      have c47b1 : decide (t275.size + t276.size ≤ 9223372036854775807) = true := decide_eq_true c47
      try have c47b2 : (9223372036854775807 < t275.size + t276.size) = False := eq_false (Nat.not_lt.2 c47)
      replace H := Option.bind_eq_some_iff.mp H
      obtain ⟨⟨t282, t283⟩, A480, H⟩ := H
      replace H : (if (t282.length : Int) < x10_1 then (ferrulelaw04_NoteLasts.j1 k1 t243 x9_1 t282 true t267 t268 t269 t270 t271 t272) else (ferrulelaw04_NoteLasts.j1 k1 t243 x9_1 t282 (decide ((t282.length : Int) > (x9_1.length : Int))) t267 t268 t269 t270 t271 t272)) = some r := H
      have A48 := am_ A480
      clear A480
      have HC49 := am_ H
      clear H
      have hcz50_0 : wr.cell? ⟨gb244, 0, none⟩ = some (.string x245000_1) := (blk_cell BK244.out 0).trans rfl
      have hcz50_1 : wr.cell? ⟨gb244, 1, none⟩ = some (.string x245001_1) := (blk_cell BK244.out 1).trans rfl
      have hcz50_2 : wr.cell? ⟨gb244, 2, none⟩ = some (.int .i64 x245002_1) := (blk_cell BK244.out 2).trans rfl
      have hcz50_3 : wr.cell? ⟨gb244, 3, none⟩ = some (.bool x245003_1) := (blk_cell BK244.out 3).trans rfl
      have hfz50_0 := blk_frozen BK244.out 0
      have hfz50_1 := blk_frozen BK244.out 1
      have hfz50_2 := blk_frozen BK244.out 2
      have hfz50_3 := blk_frozen BK244.out 3
      go_upto_region 22 with (first | ((with_reducible refine gate_callee (f := 22) rfl ?_); refine goesL_ (some 71) rfl rfl Try.func22 (by kernel_rfl) rfl #[.agg #[.string x245000_1, .string x245001_1, .int .i64 x245002_1, .bool x245003_1], .int .i64 a2] rfl (by (try simp only [List.map_toArray, List.map_cons, List.map_nil]); first | done | rfl | (simp only [List.length_drop, List.length_take]; rfl)) ?_; (with_reducible refine (ferruleref03_Crash.calls x245000_1 x245001_1 x245002_1 x245003_1 a2 t263 t264 t265 t266 _ A44.out).mono ?_); rintro e w51 ⟨rfl, hb⟩; refine ⟨_, rfl, ?_⟩; have n0_ := am_ (Kd.R_below (rx_ HO_9) hb); have n1_ := am_ (bb_ BK244 hb); have n2_ := am_ (below_step (hy_ HB) hb); clear HO_9 BK244 HB; have HO_9 := n0_; have BK244 := n1_; have HB := n2_; clear n0_ n1_ n2_; (try clear hb); (try clear hb2); (try clear hk); (try clear hi)) | ((with_reducible refine gate_callee (f := 21) rfl ?_); refine goesL_ (some 72) rfl rfl Try.func21 (by kernel_rfl) rfl #[.agg #[.string t263, .string t264, .int .i64 t265, .bool t266]] rfl (by (try simp only [List.map_toArray, List.map_cons, List.map_nil]); first | done | rfl | (simp only [List.length_drop, List.length_take]; rfl)) ?_; (with_reducible refine (note_Recover.calls k1 t263 t264 t265 t266 t267 t268 t269 t270 t271 t272 t275 t276 t277 t278 t279 _ A45.out).mono ?_); rintro e w52 ⟨v273, rfl, ho0, hb⟩; refine ⟨_, rfl, ?_⟩; have n0_ := am_ (Kd.R_below (rx_ HO_9) hb); have n1_ := am_ (Kd.R_lower ho0 (below_size (hx_ HB))); have n2_ := am_ (bb_ BK244 hb); have n3_ := am_ (below_step (hy_ HB) hb); clear HO_9 BK244 HB; have HO_9 := n0_; have HO274 := n1_; have BK244 := n2_; have HB := n3_; clear n0_ n1_ n2_ n3_; (try clear hb); (try clear hb2); (try clear hk); (try clear hi); (try clear ho0)) | ((with_reducible refine gate_dst (N := 16) rfl ?_); (try (refine gate_guard (by rfl) ?_; dsimp only)); refine box_event ?hg (N := 16) ?hd (cs := #[.int .u64 0, .int .u64 0, .int .u64 0, .int .u64 0, .string (⟨#[]⟩ : ByteArray), .slice none 0 0]) (t := 30) ?hr ?_; (case hd => rfl); (case hg => rfl); (case hr => first | (go_simp; done) | (go_simp; rfl)); intro gb280 hg w53 hbox hb; have n0_ := am_ (Kd.R_below (rx_ HO_9) hb); have n1_ := am_ (Kd.R_below (rx_ HO274) hb); have n2_ := am_ (bb_ BK244 hb); have n3_ := am_ (below_step (hy_ HB) hb); have n4_ := am_ (hbox); have n5_ := am_ ((by rw [hg]; exact (below_size (hx_ HB)) : w.heap.size ≤ gb280)); have n6_ := am_ ((by rw [hg]; exact (below_size (hx_ HB)) : w.heap.size ≤ gb280)); have n7_ := am_ ((by rw [hg]; exact Nat.ne_of_lt (bl_ BK244) : gb244 ≠ gb280)); have n8_ := am_ ((by rw [hg]; exact Nat.ne_of_gt (bl_ BK244) : gb280 ≠ gb244)); clear HO_9 HO274 BK244 HB; have HO_9 := n0_; have HO274 := n1_; have BK244 := n2_; have HB := n3_; have BK280 := n4_; have GW280 := n5_; have GE280 := n6_; have NB244_280 := n7_; have NB280_244 := n8_; clear n0_ n1_ n2_ n3_ n4_ n5_ n6_ n7_ n8_; clear hb hbox hg) | ((with_reducible refine gate_dst (N := 17) rfl ?_); (try (refine gate_guard (by rfl) ?_; dsimp only)); refine box_event ?hg (N := 17) ?hd (cs := #[.string (⟨#[]⟩ : ByteArray), .string (⟨#[]⟩ : ByteArray), .int .i64 0, .bool false]) (t := 34) ?hr ?_; (case hd => rfl); (case hg => rfl); (case hr => first | (go_simp; done) | (go_simp; rfl)); intro gb281 hg w54 hbox hb; have n0_ := am_ (Kd.R_below (rx_ HO_9) hb); have n1_ := am_ (Kd.R_below (rx_ HO274) hb); have n2_ := am_ (bb_ BK244 hb); have n3_ := am_ (bb_ BK280 hb); have n4_ := am_ (below_step (hy_ HB) hb); have n5_ := am_ (hbox); have n6_ := am_ ((by rw [hg]; exact (below_size (hx_ HB)) : w.heap.size ≤ gb281)); have n7_ := am_ ((by rw [hg]; exact (below_size (hx_ HB)) : w.heap.size ≤ gb281)); have n8_ := am_ ((by rw [hg]; exact Nat.ne_of_lt (bl_ BK244) : gb244 ≠ gb281)); have n9_ := am_ ((by rw [hg]; exact Nat.ne_of_gt (bl_ BK244) : gb281 ≠ gb244)); have n10_ := am_ ((by rw [hg]; exact Nat.ne_of_lt (bl_ BK280) : gb280 ≠ gb281)); have n11_ := am_ ((by rw [hg]; exact Nat.ne_of_gt (bl_ BK280) : gb281 ≠ gb280)); clear HO_9 HO274 BK244 BK280 HB; have HO_9 := n0_; have HO274 := n1_; have BK244 := n2_; have BK280 := n3_; have HB := n4_; have BK281 := n5_; have GW281 := n6_; have GE281 := n7_; have NB244_281 := n8_; have NB281_244 := n9_; have NB280_281 := n10_; have NB281_280 := n11_; clear n0_ n1_ n2_ n3_ n4_ n5_ n6_ n7_ n8_ n9_ n10_ n11_; clear hb hbox hg; have hnb55 := NB280_244.out; have hnc55 := NB244_280.out; have hnb56 := NB280_281.out; have hnc56 := NB281_280.out; have hcz57_0 : w54.cell? ⟨gb280, 0, none⟩ = some (.int .u64 0) := (blk_cell BK280.out 0).trans rfl; have hcz57_1 : w54.cell? ⟨gb280, 1, none⟩ = some (.int .u64 0) := (blk_cell BK280.out 1).trans rfl; have hcz57_2 : w54.cell? ⟨gb280, 2, none⟩ = some (.int .u64 0) := (blk_cell BK280.out 2).trans rfl; have hcz57_3 : w54.cell? ⟨gb280, 3, none⟩ = some (.int .u64 0) := (blk_cell BK280.out 3).trans rfl; have hcz57_4 : w54.cell? ⟨gb280, 4, none⟩ = some (.string (⟨#[]⟩ : ByteArray)) := (blk_cell BK280.out 4).trans rfl; have hcz57_5 : w54.cell? ⟨gb280, 5, none⟩ = some (.slice none 0 0) := (blk_cell BK280.out 5).trans rfl; have hfz57_0 := blk_frozen BK280.out 0; have hfz57_1 := blk_frozen BK280.out 1; have hfz57_2 := blk_frozen BK280.out 2; have hfz57_3 := blk_frozen BK280.out 3; have hfz57_4 := blk_frozen BK280.out 4; have hfz57_5 := blk_frozen BK280.out 5; obtain ⟨Ao58, co58, eo58⟩ := Kd.R_slice HO274.out; subst eo58; have hnb59 := NB281_244.out; have hnc59 := NB244_281.out; have hcz60_0 : w54.cell? ⟨gb281, 0, none⟩ = some (.string (⟨#[]⟩ : ByteArray)) := (blk_cell BK281.out 0).trans rfl; have hcz60_1 : w54.cell? ⟨gb281, 1, none⟩ = some (.string (⟨#[]⟩ : ByteArray)) := (blk_cell BK281.out 1).trans rfl; have hcz60_2 : w54.cell? ⟨gb281, 2, none⟩ = some (.int .i64 0) := (blk_cell BK281.out 2).trans rfl; have hcz60_3 : w54.cell? ⟨gb281, 3, none⟩ = some (.bool false) := (blk_cell BK281.out 3).trans rfl; have hfz60_0 := blk_frozen BK281.out 0; have hfz60_1 := blk_frozen BK281.out 1; have hfz60_2 := blk_frozen BK281.out 2; have hfz60_3 := blk_frozen BK281.out 3) | ((with_reducible refine gate_callee (f := 23) rfl ?_); refine goesL_ (some 84) rfl rfl Try.func23 (by kernel_rfl) rfl #[.string (t275 ++ t276)] rfl (by (try simp only [List.map_toArray, List.map_cons, List.map_nil]); first | done | rfl | (simp only [List.length_drop, List.length_take]; rfl)) ?_; (with_reducible refine (note_Read.calls k1 (t275 ++ t276) t282 t283 _ A48.out).mono ?_); rintro e w61 ⟨v284, rfl, ho0, hb⟩; refine ⟨_, rfl, ?_⟩; have n0_ := am_ (Kd.R_elder' (by (with_reducible repeat (first | apply Kd.R_alloc | apply Kd.R_drewN | apply Kd.R_drew)); exact (Kd.R_mono (Kd.R_mono (Kd.R_far (p := ⟨gb281, 3, none⟩) (Kd.R_far (p := ⟨gb281, 2, none⟩) (Kd.R_far (p := ⟨gb281, 1, none⟩) (Kd.R_far (p := ⟨gb281, 0, none⟩) (Kd.R_far (p := ⟨gb280, 5, none⟩) (Kd.R_far (p := ⟨gb280, 4, none⟩) (Kd.R_far (p := ⟨gb280, 3, none⟩) (Kd.R_far (p := ⟨gb280, 2, none⟩) (Kd.R_far (p := ⟨gb280, 1, none⟩) (Kd.R_far (p := ⟨gb280, 0, none⟩) (Kd.R_types (Kd.R_types HO_9.out BK280.out (by decide)) BK281.out (by decide)) (fun _ hk => hk.1.2) (.int .u64 t267)) (fun _ hk => hk.1.2) (.int .u64 t268)) (fun _ hk => hk.1.2) (.int .u64 t269)) (fun _ hk => hk.1.2) (.int .u64 t270)) (fun _ hk => hk.1.2) (.string t271)) (fun _ hk => hk.1.2) (.slice Ao58 t272.length co58)) (fun _ hk => hk.2) (.string t275)) (fun _ hk => hk.2) (.string t276)) (fun _ hk => hk.2) (.int .i64 t277)) (fun _ hk => hk.2) (.bool t278)) (fun _ h_ => h_.1)) (fun _ h_ => h_.1))) (Kd.R_base ho0) hb); have n1_ := am_ (Kd.R_below (by (with_reducible repeat (first | apply Kd.R_alloc | apply Kd.R_drewN | apply Kd.R_drew)); exact (Kd.R_mono (Kd.R_mono (Kd.R_far (p := ⟨gb281, 3, none⟩) (Kd.R_far (p := ⟨gb281, 2, none⟩) (Kd.R_far (p := ⟨gb281, 1, none⟩) (Kd.R_far (p := ⟨gb281, 0, none⟩) (Kd.R_far (p := ⟨gb280, 5, none⟩) (Kd.R_far (p := ⟨gb280, 4, none⟩) (Kd.R_far (p := ⟨gb280, 3, none⟩) (Kd.R_far (p := ⟨gb280, 2, none⟩) (Kd.R_far (p := ⟨gb280, 1, none⟩) (Kd.R_far (p := ⟨gb280, 0, none⟩) (Kd.R_types (Kd.R_types HO274.out BK280.out (by decide)) BK281.out (by decide)) (fun _ hk => hk.1.2) (.int .u64 t267)) (fun _ hk => hk.1.2) (.int .u64 t268)) (fun _ hk => hk.1.2) (.int .u64 t269)) (fun _ hk => hk.1.2) (.int .u64 t270)) (fun _ hk => hk.1.2) (.string t271)) (fun _ hk => hk.1.2) (.slice Ao58 t272.length co58)) (fun _ hk => hk.2) (.string t275)) (fun _ hk => hk.2) (.string t276)) (fun _ hk => hk.2) (.int .i64 t277)) (fun _ hk => hk.2) (.bool t278)) (fun _ h_ => h_.1)) (fun _ h_ => h_.1))) hb); have n2_ := am_ (Kd.R_lower (Kd.R_new' ho0 (Kd.R_lt (by (with_reducible repeat (first | apply Kd.R_alloc | apply Kd.R_drewN | apply Kd.R_drew)); exact (Kd.R_mono (Kd.R_mono (Kd.R_far (p := ⟨gb281, 3, none⟩) (Kd.R_far (p := ⟨gb281, 2, none⟩) (Kd.R_far (p := ⟨gb281, 1, none⟩) (Kd.R_far (p := ⟨gb281, 0, none⟩) (Kd.R_far (p := ⟨gb280, 5, none⟩) (Kd.R_far (p := ⟨gb280, 4, none⟩) (Kd.R_far (p := ⟨gb280, 3, none⟩) (Kd.R_far (p := ⟨gb280, 2, none⟩) (Kd.R_far (p := ⟨gb280, 1, none⟩) (Kd.R_far (p := ⟨gb280, 0, none⟩) (Kd.R_types (Kd.R_types HO_9.out BK280.out (by decide)) BK281.out (by decide)) (fun _ hk => hk.1.2) (.int .u64 t267)) (fun _ hk => hk.1.2) (.int .u64 t268)) (fun _ hk => hk.1.2) (.int .u64 t269)) (fun _ hk => hk.1.2) (.int .u64 t270)) (fun _ hk => hk.1.2) (.string t271)) (fun _ hk => hk.1.2) (.slice Ao58 t272.length co58)) (fun _ hk => hk.2) (.string t275)) (fun _ hk => hk.2) (.string t276)) (fun _ hk => hk.2) (.int .i64 t277)) (fun _ hk => hk.2) (.bool t278)) (fun _ h_ => h_.1)) (fun _ h_ => h_.1))))) (below_size (hx_ HB))); have n3_ := am_ (blk_below (g := gb244) (o := .cells #[.string x245000_1, .string x245001_1, .int .i64 x245002_1, .bool x245003_1] 34 (0, 0)) (by (with_reducible repeat (first | refine blk_drewN ?_ _ | refine blk_drew ?_ | refine blk_alloc ?_ _)); refine blk_far ?_ NB244_281.out _; (with_reducible repeat (first | refine blk_drewN ?_ _ | refine blk_drew ?_ | refine blk_alloc ?_ _)); refine blk_far ?_ NB244_281.out _; (with_reducible repeat (first | refine blk_drewN ?_ _ | refine blk_drew ?_ | refine blk_alloc ?_ _)); refine blk_far ?_ NB244_281.out _; (with_reducible repeat (first | refine blk_drewN ?_ _ | refine blk_drew ?_ | refine blk_alloc ?_ _)); refine blk_far ?_ NB244_281.out _; (with_reducible repeat (first | refine blk_drewN ?_ _ | refine blk_drew ?_ | refine blk_alloc ?_ _)); refine blk_far ?_ NB244_280.out _; (with_reducible repeat (first | refine blk_drewN ?_ _ | refine blk_drew ?_ | refine blk_alloc ?_ _)); refine blk_far ?_ NB244_280.out _; (with_reducible repeat (first | refine blk_drewN ?_ _ | refine blk_drew ?_ | refine blk_alloc ?_ _)); refine blk_far ?_ NB244_280.out _; (with_reducible repeat (first | refine blk_drewN ?_ _ | refine blk_drew ?_ | refine blk_alloc ?_ _)); refine blk_far ?_ NB244_280.out _; (with_reducible repeat (first | refine blk_drewN ?_ _ | refine blk_drew ?_ | refine blk_alloc ?_ _)); refine blk_far ?_ NB244_280.out _; (with_reducible repeat (first | refine blk_drewN ?_ _ | refine blk_drew ?_ | refine blk_alloc ?_ _)); refine blk_far ?_ NB244_280.out _; (with_reducible repeat (first | refine blk_drewN ?_ _ | refine blk_drew ?_ | refine blk_alloc ?_ _)); exact BK244.out) hb); have n4_ := am_ (blk_below (g := gb280) (o := .cells #[.int .u64 t267, .int .u64 t268, .int .u64 t269, .int .u64 t270, .string t271, .slice Ao58 t272.length co58] 30 (0, 0)) (by (with_reducible repeat (first | refine blk_drewN ?_ _ | refine blk_drew ?_ | refine blk_alloc ?_ _)); refine blk_far ?_ NB280_281.out _; (with_reducible repeat (first | refine blk_drewN ?_ _ | refine blk_drew ?_ | refine blk_alloc ?_ _)); refine blk_far ?_ NB280_281.out _; (with_reducible repeat (first | refine blk_drewN ?_ _ | refine blk_drew ?_ | refine blk_alloc ?_ _)); refine blk_far ?_ NB280_281.out _; (with_reducible repeat (first | refine blk_drewN ?_ _ | refine blk_drew ?_ | refine blk_alloc ?_ _)); refine blk_far ?_ NB280_281.out _; (with_reducible repeat (first | refine blk_drewN ?_ _ | refine blk_drew ?_ | refine blk_alloc ?_ _)); refine blk_put (cs := #[.int .u64 t267, .int .u64 t268, .int .u64 t269, .int .u64 t270, .string t271, .slice none 0 0]) ?_ 5 _ rfl; (with_reducible repeat (first | refine blk_drewN ?_ _ | refine blk_drew ?_ | refine blk_alloc ?_ _)); refine blk_put (cs := #[.int .u64 t267, .int .u64 t268, .int .u64 t269, .int .u64 t270, .string (⟨#[]⟩ : ByteArray), .slice none 0 0]) ?_ 4 _ rfl; (with_reducible repeat (first | refine blk_drewN ?_ _ | refine blk_drew ?_ | refine blk_alloc ?_ _)); refine blk_put (cs := #[.int .u64 t267, .int .u64 t268, .int .u64 t269, .int .u64 0, .string (⟨#[]⟩ : ByteArray), .slice none 0 0]) ?_ 3 _ rfl; (with_reducible repeat (first | refine blk_drewN ?_ _ | refine blk_drew ?_ | refine blk_alloc ?_ _)); refine blk_put (cs := #[.int .u64 t267, .int .u64 t268, .int .u64 0, .int .u64 0, .string (⟨#[]⟩ : ByteArray), .slice none 0 0]) ?_ 2 _ rfl; (with_reducible repeat (first | refine blk_drewN ?_ _ | refine blk_drew ?_ | refine blk_alloc ?_ _)); refine blk_put (cs := #[.int .u64 t267, .int .u64 0, .int .u64 0, .int .u64 0, .string (⟨#[]⟩ : ByteArray), .slice none 0 0]) ?_ 1 _ rfl; (with_reducible repeat (first | refine blk_drewN ?_ _ | refine blk_drew ?_ | refine blk_alloc ?_ _)); refine blk_put (cs := #[.int .u64 0, .int .u64 0, .int .u64 0, .int .u64 0, .string (⟨#[]⟩ : ByteArray), .slice none 0 0]) ?_ 0 _ rfl; (with_reducible repeat (first | refine blk_drewN ?_ _ | refine blk_drew ?_ | refine blk_alloc ?_ _)); exact BK280.out) hb); have n5_ := am_ (blk_below (g := gb281) (o := .cells #[.string t275, .string t276, .int .i64 t277, .bool t278] 34 (0, 0)) (by (with_reducible repeat (first | refine blk_drewN ?_ _ | refine blk_drew ?_ | refine blk_alloc ?_ _)); refine blk_put (cs := #[.string t275, .string t276, .int .i64 t277, .bool false]) ?_ 3 _ rfl; (with_reducible repeat (first | refine blk_drewN ?_ _ | refine blk_drew ?_ | refine blk_alloc ?_ _)); refine blk_put (cs := #[.string t275, .string t276, .int .i64 0, .bool false]) ?_ 2 _ rfl; (with_reducible repeat (first | refine blk_drewN ?_ _ | refine blk_drew ?_ | refine blk_alloc ?_ _)); refine blk_put (cs := #[.string t275, .string (⟨#[]⟩ : ByteArray), .int .i64 0, .bool false]) ?_ 1 _ rfl; (with_reducible repeat (first | refine blk_drewN ?_ _ | refine blk_drew ?_ | refine blk_alloc ?_ _)); refine blk_put (cs := #[.string (⟨#[]⟩ : ByteArray), .string (⟨#[]⟩ : ByteArray), .int .i64 0, .bool false]) ?_ 0 _ rfl; (with_reducible repeat (first | refine blk_drewN ?_ _ | refine blk_drew ?_ | refine blk_alloc ?_ _)); refine blk_far ?_ NB281_280.out _; (with_reducible repeat (first | refine blk_drewN ?_ _ | refine blk_drew ?_ | refine blk_alloc ?_ _)); refine blk_far ?_ NB281_280.out _; (with_reducible repeat (first | refine blk_drewN ?_ _ | refine blk_drew ?_ | refine blk_alloc ?_ _)); refine blk_far ?_ NB281_280.out _; (with_reducible repeat (first | refine blk_drewN ?_ _ | refine blk_drew ?_ | refine blk_alloc ?_ _)); refine blk_far ?_ NB281_280.out _; (with_reducible repeat (first | refine blk_drewN ?_ _ | refine blk_drew ?_ | refine blk_alloc ?_ _)); refine blk_far ?_ NB281_280.out _; (with_reducible repeat (first | refine blk_drewN ?_ _ | refine blk_drew ?_ | refine blk_alloc ?_ _)); refine blk_far ?_ NB281_280.out _; (with_reducible repeat (first | refine blk_drewN ?_ _ | refine blk_drew ?_ | refine blk_alloc ?_ _)); exact BK281.out) hb); have n6_ := am_ (below_step (hy_ HB) hb); clear HO_9 HO274 BK244 BK280 BK281 HB; have HO_9 := n0_; have HO274 := n1_; have HO285 := n2_; have BK244 := n3_; have BK280 := n4_; have BK281 := n5_; have HB := n6_; clear n0_ n1_ n2_ n3_ n4_ n5_ n6_; (try clear hb); (try clear hb2); (try clear hk); (try clear hi); (try clear ho0)))
      (try simp only [Act.put, List.setIfInBounds_toArray, List.set_cons_zero, List.set_cons_succ])
      go_cut [97] (fun v97 wc => ∃ (kq : Nat) (x97_48 : Bool), v97 = .bool x97_48 ∧ Aside0 (ferrulelaw04_NoteLasts.j1 kq t243 x9_1 t282 x97_48 t267 t268 t269 t270 t271 t272 = some r) ∧ Aside0 (kq ≤ k1) ∧ Aside0 (Kd.R k39 39 wc w.heap.size (fun k_ => some k_ ≠ (v284 : Value).ownBlock) u9 x9_1) ∧ Aside0 (Kd.R k39 39 wc w.heap.size (fun k_ => some k_ ≠ (u9 : Value).ownBlock) v284 t282) ∧ Aside0 (Kd.R k75 75 wc w.heap.size (fun _ => True) (.slice Ao58 t272.length co58) t272) ∧ Aside0 (wc.heap[gb244]? = some (.cells #[.string x245000_1, .string x245001_1, .int .i64 x245002_1, .bool x245003_1] 34 (0, 0))) ∧ Aside0 (wc.heap[gb280]? = some (.cells #[.int .u64 t267, .int .u64 t268, .int .u64 t269, .int .u64 t270, .string t271, (.slice Ao58 t272.length co58)] 30 (0, 0))) ∧ Aside0 (wc.heap[gb281]? = some (.cells #[.string t275, .string t276, .int .i64 t277, .bool t278] 34 (0, 0))) ∧ Aside0 (Below w.heap.size w wc))
      case first =>
       have H := HC49.out
       clear HC49
       by_cases c62 : (t282.length : Int) < x10_1
       ·rw [if_pos c62] at H
        have c62b0 : decide ((t282.length : Int) < x10_1) = true := decide_eq_true c62
        clear c62
        (first | rw [c62b0] | (simp only [i64_w, i32_w]; rw [c62b0]) | skip)
        have H' := am_ H
        clear H
        obtain ⟨Ao63, co63, eo63⟩ := Kd.R_slice HO285.out
        subst eo63
        go_wp2
        go_meet
        case rel => exact ⟨_, (true), (by first | rfl | (simp; done) | (simp [*]; done)), H', ⟨by have := HK1.out; first | omega | exact Nat.le_refl _⟩, ⟨by (with_reducible repeat (first | apply Kd.R_alloc | apply Kd.R_drewN | apply Kd.R_drew)); exact Kd.R_mono HO_9.out (fun _ hk => hk.2)⟩, ⟨by (with_reducible repeat (first | apply Kd.R_alloc | apply Kd.R_drewN | apply Kd.R_drew)); exact Kd.R_mono HO285.out (fun _ hk => hk.2)⟩, ⟨rx_ HO274⟩, ⟨bx_ BK244⟩, ⟨bx_ BK280⟩, ⟨bx_ BK281⟩, ⟨hx_ HB⟩⟩
       ·rw [if_neg c62] at H
        have c62b0 : decide ((t282.length : Int) < x10_1) = false := decide_eq_false c62
        clear c62
        (first | rw [c62b0] | (simp only [i64_w, i32_w]; rw [c62b0]) | skip)
        have H' := am_ H
        clear H
        obtain ⟨Ao64, co64, eo64⟩ := Kd.R_slice HO285.out
        subst eo64
        obtain ⟨Ao65, co65, eo65⟩ := Kd.R_slice HO_9.out
        subst eo65
        go_wp2
        go_meet
        case rel => exact ⟨_, (decide ((t282.length : Int) > (x9_1.length : Int))), (by first | rfl | (simp; done) | (simp [*]; done)), H', ⟨by have := HK1.out; first | omega | exact Nat.le_refl _⟩, ⟨by (with_reducible repeat (first | apply Kd.R_alloc | apply Kd.R_drewN | apply Kd.R_drew)); exact Kd.R_mono HO_9.out (fun _ hk => hk.2)⟩, ⟨by (with_reducible repeat (first | apply Kd.R_alloc | apply Kd.R_drewN | apply Kd.R_drew)); exact Kd.R_mono HO285.out (fun _ hk => hk.2)⟩, ⟨rx_ HO274⟩, ⟨bx_ BK244⟩, ⟨bx_ BK280⟩, ⟨bx_ BK281⟩, ⟨hx_ HB⟩⟩
      case rest =>
       clear HC49
       try clear c1
       try clear c2
       try clear p2
       try clear q2
       try clear hx2
       try clear c3
       try clear c4
       try clear c5
       try clear c6
       try clear p6
       try clear c8
       try clear c8b0
       try clear c9
       try clear c9b0
       try clear c11
       try clear c11b0
       try clear c11b1
       try clear c13
       try clear c13b0
       try clear c13b1
       try clear c14
       try clear c15
       try clear c15b0
       try clear c15b1
       try clear c18
       try clear c19
       try clear c20
       try clear c21
       try clear c22
       try clear c23
       try clear p24
       try clear q24
       try clear hx24
       try clear p25
       try clear q25
       try clear hx25
       try clear c33
       try clear c41
       try clear c46
       try clear c46b0
       try clear c46b1
       try clear c47
       try clear c47b0
       try clear c47b1
       try clear c47b2
       try clear c55
       try clear c56
       try clear c59
       try clear c62
       try clear c62b0
       try clear p64
       try clear hcz18_0
       try clear hcz18_1
       try clear hcz18_2
       try clear hcz18_3
       try clear hcz22_0
       try clear hcz22_1
       try clear hcz22_2
       try clear hcz22_3
       try clear hcz23_0
       try clear hcz23_1
       try clear hcz23_2
       try clear hcz23_3
       try clear hcz25_0
       try clear hcz25_1
       try clear hcz25_2
       try clear hcz25_3
       try clear hcz27_0
       try clear hcz27_1
       try clear hcz27_2
       try clear hcz27_3
       try clear hcz30_0
       try clear hcz30_1
       try clear hcz30_2
       try clear hcz30_3
       try clear hcz34_0
       try clear hcz34_1
       try clear hcz34_2
       try clear hcz34_3
       try clear hcz35_0
       try clear hcz35_1
       try clear hcz35_2
       try clear hcz35_3
       try clear hcz38_0
       try clear hcz38_1
       try clear hcz38_2
       try clear hcz38_3
       try clear hcz42_0
       try clear hcz42_1
       try clear hcz42_2
       try clear hcz42_3
       try clear hcz50_0
       try clear hcz50_1
       try clear hcz50_2
       try clear hcz50_3
       try clear hcz57_0
       try clear hcz57_1
       try clear hcz57_2
       try clear hcz57_3
       try clear hcz57_4
       try clear hcz57_5
       try clear hcz60_0
       try clear hcz60_1
       try clear hcz60_2
       try clear hcz60_3
       try clear hcz7_0
       try clear hcz7_1
       try clear hcz7_2
       try clear hcz7_3
       try clear hfz18_0
       try clear hfz18_1
       try clear hfz18_2
       try clear hfz18_3
       try clear hfz22_0
       try clear hfz22_1
       try clear hfz22_2
       try clear hfz22_3
       try clear hfz23_0
       try clear hfz23_1
       try clear hfz23_2
       try clear hfz23_3
       try clear hfz25_0
       try clear hfz25_1
       try clear hfz25_2
       try clear hfz25_3
       try clear hfz27_0
       try clear hfz27_1
       try clear hfz27_2
       try clear hfz27_3
       try clear hfz30_0
       try clear hfz30_1
       try clear hfz30_2
       try clear hfz30_3
       try clear hfz34_0
       try clear hfz34_1
       try clear hfz34_2
       try clear hfz34_3
       try clear hfz35_0
       try clear hfz35_1
       try clear hfz35_2
       try clear hfz35_3
       try clear hfz38_0
       try clear hfz38_1
       try clear hfz38_2
       try clear hfz38_3
       try clear hfz42_0
       try clear hfz42_1
       try clear hfz42_2
       try clear hfz42_3
       try clear hfz50_0
       try clear hfz50_1
       try clear hfz50_2
       try clear hfz50_3
       try clear hfz57_0
       try clear hfz57_1
       try clear hfz57_2
       try clear hfz57_3
       try clear hfz57_4
       try clear hfz57_5
       try clear hfz60_0
       try clear hfz60_1
       try clear hfz60_2
       try clear hfz60_3
       try clear hfz7_0
       try clear hfz7_1
       try clear hfz7_2
       try clear hfz7_3
       try clear hx245_0
       try clear hx245_1
       try clear hx245_2
       try clear hx245_3
       try clear hx245_4
       try clear hx254_0
       try clear hx254_1
       try clear hx254_2
       try clear hx254_3
       try clear hx254_4
       try clear p2
       try clear p245
       try clear p254
       try clear q245
       try clear q254
       obtain ⟨kq, x97_48, rfl, HA, HJ48, HO_9, HO_19, HO_281005, BK244, BK280, BK281, HB⟩ := hcut
       cases kq with
       | zero => exact absurd HA.out (by simp [ferrulelaw04_NoteLasts.j1])
       | succ kj48 =>
        have H := HA.out
        clear HA
        simp only [ferrulelaw04_NoteLasts.j1] at H
        by_cases c66 : x97_48 = true
        ·subst c66
         have H1 : (none) = some r := by rw [if_pos rfl] at H; exact H
         clear H
         have H := H1
         clear H1
         exact absurd H (by simp)
        ·replace c66 := Bool.eq_false_iff.mpr c66
         subst c66
         have H1 : (if 0 ≤ (t282.length : Int) then (if (t282.length : Int) ≤ (x9_1.length : Int) then ((ferruleref04_Notes.f kj48 t282 (x9_1.take ((t282.length : Int) : Int).toNat)).bind fun t290 => ((ferruleref04_Fold.f kj48 (x9_1.take ((t282.length : Int) : Int).toNat)).bind fun bt295 => ((ferruleref04_Same.f kj48 t267 t268 t269 t270 t271 t272 bt295.1 bt295.2.1 bt295.2.2.1 bt295.2.2.2.1 bt295.2.2.2.2.1 bt295.2.2.2.2.2).bind fun t303 => (if t243 = true then (if t290 = true then (some t303) else (none)) else (none))))) else (none)) else (none)) = some r := by rw [if_neg (show ¬ (false = true) by decide)] at H; exact H
         clear H
         have H := H1
         clear H1
         by_cases c67 : 0 ≤ (t282.length : Int)
         ·rw [if_pos c67] at H
          have c67b0 := eq_true c67
          have c67b1 : decide (0 ≤ (t282.length : Int)) = true := decide_eq_true c67
          clear c67
          by_cases c68 : (t282.length : Int) ≤ (x9_1.length : Int)
          ·rw [if_pos c68] at H
           have c68b0 := eq_true c68
           have c68b1 : decide ((t282.length : Int) ≤ (x9_1.length : Int)) = true := decide_eq_true c68
           clear c68
           obtain ⟨y286, hy286⟩ : ∃ y_ : List (S39), y_ = (x9_1.take ((t282.length : Int) : Int).toNat) := ⟨_, rfl⟩
           replace H : ((ferruleref04_Notes.f kj48 t282 y286).bind fun t290 => ((ferruleref04_Fold.f kj48 (x9_1.take ((t282.length : Int) : Int).toNat)).bind fun bt295 => ((ferruleref04_Same.f kj48 t267 t268 t269 t270 t271 t272 bt295.1 bt295.2.1 bt295.2.2.1 bt295.2.2.2.1 bt295.2.2.2.2.1 bt295.2.2.2.2.2).bind fun t303 => (if t243 = true then (if t290 = true then (some t303) else (none)) else (none))))) = some r := by first | (rw [hy286]; with_reducible exact H) | (have H2_ := (Option.bind_some _ _).symm.trans H; rw [hy286]; with_reducible exact H2_) | (have H2_ := (Option.bind_some _ _).symm.trans H; with_reducible exact H2_) | with_reducible exact H | (rw [hy286]; exact H) | exact H
           have Ny286 := am_ hy286
           clear hy286
           replace H := Option.bind_eq_some_iff.mp H
           obtain ⟨t290, A690, H⟩ := H
           replace H : ((ferruleref04_Fold.f kj48 (x9_1.take ((t282.length : Int) : Int).toNat)).bind fun bt295 => ((ferruleref04_Same.f kj48 t267 t268 t269 t270 t271 t272 bt295.1 bt295.2.1 bt295.2.2.1 bt295.2.2.2.1 bt295.2.2.2.2.1 bt295.2.2.2.2.2).bind fun t303 => (if t243 = true then (if t290 = true then (some t303) else (none)) else (none)))) = some r := H
           have A69 := am_ A690
           clear A690
           have c70b0 := eq_true (of_decide_eq_true (by first | (with_reducible assumption) | assumption) : 0 ≤ (t282.length : Int))
           have c71b0 := eq_true (of_decide_eq_true (by first | (with_reducible assumption) | assumption) : (t282.length : Int) ≤ (x9_1.length : Int))
           obtain ⟨y291, hy291⟩ : ∃ y_ : List (S39), y_ = (x9_1.take ((t282.length : Int) : Int).toNat) := ⟨_, rfl⟩
           replace H : ((ferruleref04_Fold.f kj48 y291).bind fun bt295 => ((ferruleref04_Same.f kj48 t267 t268 t269 t270 t271 t272 bt295.1 bt295.2.1 bt295.2.2.1 bt295.2.2.2.1 bt295.2.2.2.2.1 bt295.2.2.2.2.2).bind fun t303 => (if t243 = true then (if t290 = true then (some t303) else (none)) else (none)))) = some r := by first | (rw [hy291]; with_reducible exact H) | (have H2_ := (Option.bind_some _ _).symm.trans H; rw [hy291]; with_reducible exact H2_) | (have H2_ := (Option.bind_some _ _).symm.trans H; with_reducible exact H2_) | with_reducible exact H | (rw [hy291]; exact H) | exact H
           have Ny291 := am_ hy291
           clear hy291
           replace H := Option.bind_eq_some_iff.mp H
           obtain ⟨⟨t295, t296, t297, t298, t299, t300⟩, A720, H⟩ := H
           replace H : ((ferruleref04_Same.f kj48 t267 t268 t269 t270 t271 t272 t295 t296 t297 t298 t299 t300).bind fun t303 => (if t243 = true then (if t290 = true then (some t303) else (none)) else (none))) = some r := H
           have A72 := am_ A720
           clear A720
           replace H := Option.bind_eq_some_iff.mp H
           obtain ⟨t303, A730, H⟩ := H
           replace H : (if t243 = true then (if t290 = true then (some t303) else (none)) else (none)) = some r := H
           have A73 := am_ A730
           clear A730
           by_cases c74 : t243 = true
           ·subst c74
            have H1 : (if t290 = true then (some t303) else (none)) = some r := by rw [if_pos rfl] at H; exact H
            clear H
            have H := H1
            clear H1
            by_cases c75 : t290 = true
            ·subst c75
             have H1 : (some t303) = some r := by rw [if_pos rfl] at H; exact H
             clear H
             have H := H1
             clear H1
             obtain rfl := Option.some.inj H
             obtain ⟨Ao76, co76, eo76⟩ := Kd.R_slice HO_19.out
             subst eo76
             obtain ⟨Ao78, co78, eo78⟩ := Kd.R_slice HO_9.out
             subst eo78
             have q77 : ((t282.length : Int) : Int) ≤ ((x9_1.length : Int) : Int) := of_decide_eq_true (by first | (with_reducible assumption) | assumption)
             obtain ⟨i077, hi077, _, hsz77, _⟩ := info_parts info39
             have hroom77 : x9_1.length ≤ co78 := (Kd.R_reads' HO_9.out).2.1
             have hC77 : Kd.C k39 _ Ao78 x9_1.length x9_1 := (Kd.R_reads' HO_9.out).2.2
             have hcut77 := cut_to (P := Try.prog) 22 39 .i64 Try.underlying22 hi077 Ao78 x9_1.length co78 (t282.length : Int) (of_decide_eq_true (by first | (with_reducible assumption) | assumption)) q77 hroom77
             have hr77 := Kd.C_take (m := ((t282.length : Int) : Int).toNat) hC77 (by omega)
             have hy77 : y286.length = ((t282.length : Int) : Int).toNat := (by rw [Ny286.out, List.length_take]; omega)
             rw [← Ny286.out] at hr77
             rw [← hy77] at hcut77
             have HR289 := am_ hr77
             have HC289 := am_ (show y286.length ≤ co78 from by omega)
             clear hr77 hC77 hroom77 hi077 hsz77
             have KY77 := am_ hy77
             clear hy77
             have KL77 := am_ (show ((t282.length : Int) : Int).toNat ≤ x9_1.length from by omega)
             replace q77 := eq_true q77
             try go_wp2_with (first | ((with_reducible refine gate_callee (f := 24) rfl ?_); refine goesL_ (some 103) rfl rfl Try.func24 (by kernel_rfl) rfl #[.slice Ao76 t282.length co76, .slice Ao78 y286.length co78] rfl (by (try simp only [List.map_toArray, List.map_cons, List.map_nil]); first | done | rfl | (simp only [List.length_drop, List.length_take]; rfl)) ?_; (with_reducible refine (ferruleref04_Notes.calls kj48 _ _ t282 _ _ y286 true _ ?side1 ?side2 ?side3 ?side4 A69.out).mono ?_); (case side1 => repeat (first | exact (Kd.R_reads' HO_19.out).2.2 | (with_reducible refine Kd.C_alloc ?_ _) | (with_reducible refine Kd.C_drewN ?_ _) | (with_reducible refine Kd.C_drew ?_))); (case side2 => exact (Kd.R_reads' HO_19.out).2.1); (case side3 => repeat (first | exact (by repeat (first | (with_reducible exact HR289.out) | (with_reducible refine Kd.C_alloc ?_ _) | (with_reducible refine Kd.C_drewN ?_ _) | (with_reducible refine Kd.C_drew ?_) | exact HR289.out)) | (with_reducible refine Kd.C_alloc ?_ _) | (with_reducible refine Kd.C_drewN ?_ _) | (with_reducible refine Kd.C_drew ?_))); (case side4 => exact HC289.out); rintro e w' ⟨rfl, ⟨nd, rfl⟩⟩; refine ⟨_, rfl, ?_⟩))
             (try (rw [drewN_self wc]; generalize hq_ : World.drewN wc _ = wc; have n0_ : Aside0 (Kd.R k39 39 wc w.heap.size (fun k_ => some k_ ≠ (.slice Ao78 x9_1.length co78 : Value).ownBlock) (.slice Ao76 t282.length co76) t282) := ⟨by rw [← hq_]; exact (rx_ HO_19)⟩; have n1_ : Aside0 (Kd.R k75 75 wc w.heap.size (fun _ => True) (.slice Ao58 t272.length co58) t272) := ⟨by rw [← hq_]; exact (rx_ HO_281005)⟩; have n2_ : Aside0 (Kd.R k39 39 wc w.heap.size (fun k_ => some k_ ≠ (.slice Ao76 t282.length co76 : Value).ownBlock) (.slice Ao78 x9_1.length co78) x9_1) := ⟨by rw [← hq_]; exact (rx_ HO_9)⟩; have n3_ : Aside0 (wc.heap[gb244]? = some (.cells #[.string x245000_1, .string x245001_1, .int .i64 x245002_1, .bool x245003_1] 34 (0, 0))) := ⟨by rw [← hq_]; exact (bx_ BK244)⟩; have n4_ : Aside0 (wc.heap[gb280]? = some (.cells #[.int .u64 t267, .int .u64 t268, .int .u64 t269, .int .u64 t270, .string t271, .slice Ao58 t272.length co58] 30 (0, 0))) := ⟨by rw [← hq_]; exact (bx_ BK280)⟩; have n5_ : Aside0 (wc.heap[gb281]? = some (.cells #[.string t275, .string t276, .int .i64 t277, .bool t278] 34 (0, 0))) := ⟨by rw [← hq_]; exact (bx_ BK281)⟩; have n6_ : Aside0 (Below w.heap.size w wc) := ⟨by rw [← hq_]; exact (hx_ HB)⟩; have n7_ : Aside0 (Kd.C k39 wc Ao78 y286.length y286) := ⟨by rw [← hq_]; exact (by repeat (first | (with_reducible exact HR289.out) | (with_reducible refine Kd.C_alloc ?_ _) | (with_reducible refine Kd.C_drewN ?_ _) | (with_reducible refine Kd.C_drew ?_) | exact HR289.out))⟩; clear HO_19 HO_281005 HO_9 BK244 BK280 BK281 HB HR289 hq_; have HO_19 := n0_; have HO_281005 := n1_; have HO_9 := n2_; have BK244 := n3_; have BK280 := n4_; have BK281 := n5_; have HB := n6_; have HR289 := n7_; clear n0_ n1_ n2_ n3_ n4_ n5_ n6_ n7_))
             have n0_ := am_ (Kd.R_drew HO_9.out)
             have n1_ := am_ (Kd.R_drew HO_19.out)
             have n2_ := am_ (Kd.R_drew HO_281005.out)
             have n3_ := am_ (blk_drew BK244.out)
             have n4_ := am_ (blk_drew BK280.out)
             have n5_ := am_ (blk_drew BK281.out)
             have n6_ := am_ (Kd.C_drew HR289.out)
             have n7_ := am_ (below_drew1 HB.out)
             clear HO_9
             clear HO_19
             clear HO_281005
             clear BK244
             clear BK280
             clear BK281
             clear HR289
             clear HB
             have HO_9 := n0_
             have HO_19 := n1_
             have HO_281005 := n2_
             have BK244 := n3_
             have BK280 := n4_
             have BK281 := n5_
             have HR289 := n6_
             have HB := n7_
             clear n0_ n1_ n2_ n3_ n4_ n5_ n6_ n7_
             have q80 : ((t282.length : Int) : Int) ≤ ((x9_1.length : Int) : Int) := of_decide_eq_true (by first | (with_reducible assumption) | assumption)
             obtain ⟨i080, hi080, _, hsz80, _⟩ := info_parts info39
             have hroom80 : x9_1.length ≤ co78 := (Kd.R_reads' HO_9.out).2.1
             have hC80 : Kd.C k39 _ Ao78 x9_1.length x9_1 := (Kd.R_reads' HO_9.out).2.2
             have hcut80 := cut_to (P := Try.prog) 22 39 .i64 Try.underlying22 hi080 Ao78 x9_1.length co78 (t282.length : Int) (of_decide_eq_true (by first | (with_reducible assumption) | assumption)) q80 hroom80
             have hr80 := Kd.C_take (m := ((t282.length : Int) : Int).toNat) hC80 (by omega)
             have hy80 : y291.length = ((t282.length : Int) : Int).toNat := (by rw [Ny291.out, List.length_take]; omega)
             rw [← Ny291.out] at hr80
             rw [← hy80] at hcut80
             have HR294 := am_ hr80
             have HC294 := am_ (show y291.length ≤ co78 from by omega)
             clear hr80 hC80 hroom80 hi080 hsz80
             have KY80 := am_ hy80
             clear hy80
             have KL80 := am_ (show ((t282.length : Int) : Int).toNat ≤ x9_1.length from by omega)
             replace q80 := eq_true q80
             refine start_ (n := 8) (S := fun w' => w'.cell? ⟨gb280, 0, none⟩ = some (.int .u64 t267) ∧ w'.cell? ⟨gb280, 1, none⟩ = some (.int .u64 t268) ∧ w'.cell? ⟨gb280, 2, none⟩ = some (.int .u64 t269) ∧ w'.cell? ⟨gb280, 3, none⟩ = some (.int .u64 t270) ∧ w'.cell? ⟨gb280, 4, none⟩ = some (.string t271) ∧ w'.cell? ⟨gb280, 5, none⟩ = some (.slice Ao58 t272.length co58)) (ds := []) bN0_ (by kernel_rfl) rfl rfl ⟨(blk_cell BK280.out 0).trans rfl, (blk_cell BK280.out 1).trans rfl, (blk_cell BK280.out 2).trans rfl, (blk_cell BK280.out 3).trans rfl, (blk_cell BK280.out 4).trans rfl, (blk_cell BK280.out 5).trans rfl⟩ (fun hHeld => ?_); refine with_tabW ferrulelaw04_NoteLasts.tab25 ferrulelaw04_NoteLasts.bits25 (fun HT_ HW_ => ?_)
             generalize wc.drew = w79 at HO_9 HO_19 HO_281005 BK244 BK280 BK281 HR289 HB HR294 hHeld ⊢
             refine pure_ (i := 1) (N := some 105) (v := ?_) (a' := ?_) bN1_ rfl rfl (any_of HT_.out (by kernel_rfl)) (fun _ _ _ h => h) (Or.inl ⟨by rfl, ?_⟩) ?_ ?_; rotate_left; (intro w'; go_simp; with_reducible rfl); rotate_left; (simp only [Act.put, List.setIfInBounds_toArray, List.set_cons_zero, List.set_cons_succ, i64_w, i32_w]; rfl)
             refine pure_ (i := 2) (N := some 106) (v := ?_) (a' := ?_) bN2_ rfl rfl (any_of HT_.out (by kernel_rfl)) (fun _ _ _ h => h) (Or.inl ⟨by rfl, ?_⟩) ?_ ?_; rotate_left; (intro w'; go_simp; with_reducible rfl); rotate_left; (simp only [Act.put, List.setIfInBounds_toArray, List.set_cons_zero, List.set_cons_succ, i64_w, i32_w]; rfl)
             refine pure_ (i := 3) (N := some 107) (v := ?_) (a' := ?_) bN3_ rfl rfl (any_of HT_.out (by kernel_rfl)) (fun _ _ _ h => h) (Or.inl ⟨by rfl, ?_⟩) ?_ ?_; rotate_left; (intro w'; go_simp; with_reducible rfl); rotate_left; (simp only [Act.put, List.setIfInBounds_toArray, List.set_cons_zero, List.set_cons_succ, i64_w, i32_w]; rfl)
             refine pure_ (i := 4) (N := some 108) (v := ?_) (a' := ?_) bN4_ rfl rfl (any_of HT_.out (by kernel_rfl)) (fun _ _ _ h => h) (Or.inl ⟨by rfl, ?_⟩) ?_ ?_; rotate_left; (intro w'; go_simp; with_reducible rfl); rotate_left; (simp only [Act.put, List.setIfInBounds_toArray, List.set_cons_zero, List.set_cons_succ, i64_w, i32_w]; rfl)
             refine take_ (i := 0) (N := some 104) (v := ?_) (a' := ?_) bN5_ rfl rfl (take_ofW HT_.out HW_.out (by kernel_rfl)) (fun _ _ _ h => h) (Or.inl ⟨by rfl, ?_⟩) hHeld ?_ ?_; rotate_left; (rintro w' ⟨s0, s1, s2, s3, s4, s5⟩; go_simp; with_reducible rfl); rotate_left; (simp only [Act.put, List.setIfInBounds_toArray, List.set_cons_zero, List.set_cons_succ, i64_w, i32_w]; rfl)
             refine one_ (i := 5) (N := some 109) bN6_ rfl rfl (one_of HT_.out (by kernel_rfl)) (by decide) (fun K hK => ?_)
             refine goes_ Try.func17 (by kernel_rfl) rfl #[.slice Ao78 y291.length co78] (by rfl) rfl rfl (by (try simp only [List.map_toArray, List.map_cons, List.map_nil]); first | done | rfl | (rw [show y291 = y286 from Ny291.out.trans Ny286.out.symm]; rfl) | (simp only [List.length_drop, List.length_take]; rfl)) ?_
             with_reducible refine (ferruleref04_Fold.calls kj48 _ _ y291 t295 t296 t297 t298 t299 t300 _ ?side1 ?side2 A72.out).mono ?_
             (case side1 => repeat (first | exact (by repeat (first | (with_reducible exact HR294.out) | (with_reducible refine Kd.C_alloc ?_ _) | (with_reducible refine Kd.C_drewN ?_ _) | (with_reducible refine Kd.C_drew ?_) | exact HR294.out)) | (with_reducible refine Kd.C_alloc ?_ _) | (with_reducible refine Kd.C_drewN ?_ _) | (with_reducible refine Kd.C_drew ?_)))
             (case side2 => exact HC294.out)
             rintro e w81 ⟨v301, rfl, ho0, hb⟩
             refine ⟨_, rfl, ?_⟩
             have n0_ := am_ (Kd.R_below (rx_ HO_9) hb)
             have n1_ := am_ (Kd.R_below (rx_ HO_19) hb)
             have n2_ := am_ (Kd.R_elder' (rx_ HO_281005) (Kd.R_base ho0) hb)
             have n3_ := am_ (Kd.R_lower (Kd.R_new' ho0 (Kd.R_lt (rx_ HO_281005))) (below_size (hx_ HB)))
             have n4_ := am_ (bb_ BK244 hb)
             have n5_ := am_ (bb_ BK280 hb)
             have n6_ := am_ (bb_ BK281 hb)
             have n7_ := am_ (Kd.C_below (by repeat (first | (with_reducible exact HR289.out) | (with_reducible refine Kd.C_alloc ?_ _) | (with_reducible refine Kd.C_drewN ?_ _) | (with_reducible refine Kd.C_drew ?_) | exact HR289.out)) hb)
             have n8_ := am_ (Kd.C_below (by repeat (first | (with_reducible exact HR294.out) | (with_reducible refine Kd.C_alloc ?_ _) | (with_reducible refine Kd.C_drewN ?_ _) | (with_reducible refine Kd.C_drew ?_) | exact HR294.out)) hb)
             have n9_ := am_ (below_step (hy_ HB) hb)
             clear HO_9
             clear HO_19
             clear HO_281005
             clear BK244
             clear BK280
             clear BK281
             clear HR289
             clear HR294
             clear HB
             have HO_9 := n0_
             have HO_19 := n1_
             have HO_281005 := n2_
             have HO302 := n3_
             have BK244 := n4_
             have BK280 := n5_
             have BK281 := n6_
             have HR289 := n7_
             have HR294 := n8_
             have HB := n9_
             clear n0_ n1_ n2_ n3_ n4_ n5_ n6_ n7_ n8_ n9_
             (try clear hb)
             (try clear hb2)
             (try clear hk)
             (try clear hi)
             (try clear ho0)
             obtain ⟨Ao82, co82, eo82⟩ := Kd.R_slice HO302.out
             (first | subst eo82 | (injection eo82 with f1_ f2_ f3_; have f4_ := f1_.symm; have f5_ := f3_.symm; clear f1_ f2_ f3_; subst f4_; subst f5_))
             refine hK.out _ _ ⟨(blk_cell BK280.out 0).trans rfl, (blk_cell BK280.out 1).trans rfl, (blk_cell BK280.out 2).trans rfl, (blk_cell BK280.out 3).trans rfl, (blk_cell BK280.out 4).trans rfl, (blk_cell BK280.out 5).trans rfl⟩ (fun hHeld => ?_)
             clear hK K
             refine norm_ (a' := ?_) ?_ ?_
             rotate_left
             ·show Act.put _ (some 109) _ = _
              simp only [Act.put, List.setIfInBounds_toArray, List.set_cons_zero, List.set_cons_succ, i64_w, i32_w]
              rfl
             refine one_ (i := 6) (N := some 110) bN7_ rfl rfl (one_of HT_.out (by kernel_rfl)) (by decide) (fun K hK => ?_)
             refine goes_ Try.func15 (by kernel_rfl) rfl #[.agg #[.int .u64 t267, .int .u64 t268, .int .u64 t269, .int .u64 t270, .string t271, .slice Ao58 t272.length co58], .agg #[.int .u64 t295, .int .u64 t296, .int .u64 t297, .int .u64 t298, .string t299, .slice Ao82 t300.length co82]] (by rfl) rfl rfl (by (try simp only [List.map_toArray, List.map_cons, List.map_nil]); first | done | rfl | (simp only [List.length_drop, List.length_take]; rfl)) ?_
             with_reducible refine (ferruleref04_Same.calls kj48 t267 t268 t269 t270 t271 _ _ t272 t295 t296 t297 t298 t299 _ _ t300 t303 _ ?side1 ?side2 ?side3 ?side4 A73.out).mono ?_
             (case side1 => repeat (first | exact (Kd.R_reads' HO_281005.out).2.2 | (with_reducible refine Kd.C_alloc ?_ _) | (with_reducible refine Kd.C_drewN ?_ _) | (with_reducible refine Kd.C_drew ?_)))
             (case side2 => exact (Kd.R_reads' HO_281005.out).2.1)
             (case side3 => repeat (first | exact (Kd.R_reads' HO302.out).2.2 | (with_reducible refine Kd.C_alloc ?_ _) | (with_reducible refine Kd.C_drewN ?_ _) | (with_reducible refine Kd.C_drew ?_)))
             (case side4 => exact (Kd.R_reads' HO302.out).2.1)
             rintro e w83 ⟨rfl, hb⟩
             refine ⟨_, rfl, ?_⟩
             have n0_ := am_ (Kd.R_below (rx_ HO_9) hb)
             have n1_ := am_ (Kd.R_below (rx_ HO_19) hb)
             have n2_ := am_ (Kd.R_below (rx_ HO_281005) hb)
             have n3_ := am_ (Kd.R_below (rx_ HO302) hb)
             have n4_ := am_ (bb_ BK244 hb)
             have n5_ := am_ (bb_ BK280 hb)
             have n6_ := am_ (bb_ BK281 hb)
             have n7_ := am_ (Kd.C_below (by repeat (first | (with_reducible exact HR289.out) | (with_reducible refine Kd.C_alloc ?_ _) | (with_reducible refine Kd.C_drewN ?_ _) | (with_reducible refine Kd.C_drew ?_) | exact HR289.out)) hb)
             have n8_ := am_ (Kd.C_below (by repeat (first | (with_reducible exact HR294.out) | (with_reducible refine Kd.C_alloc ?_ _) | (with_reducible refine Kd.C_drewN ?_ _) | (with_reducible refine Kd.C_drew ?_) | exact HR294.out)) hb)
             have n9_ := am_ (below_step (hy_ HB) hb)
             clear HO_9
             clear HO_19
             clear HO_281005
             clear HO302
             clear BK244
             clear BK280
             clear BK281
             clear HR289
             clear HR294
             clear HB
             have HO_9 := n0_
             have HO_19 := n1_
             have HO_281005 := n2_
             have HO302 := n3_
             have BK244 := n4_
             have BK280 := n5_
             have BK281 := n6_
             have HR289 := n7_
             have HR294 := n8_
             have HB := n9_
             clear n0_ n1_ n2_ n3_ n4_ n5_ n6_ n7_ n8_ n9_
             (try clear hb)
             (try clear hb2)
             (try clear hk)
             (try clear hi)
             refine hK.out _ _ ⟨(blk_cell BK280.out 0).trans rfl, (blk_cell BK280.out 1).trans rfl, (blk_cell BK280.out 2).trans rfl, (blk_cell BK280.out 3).trans rfl, (blk_cell BK280.out 4).trans rfl, (blk_cell BK280.out 5).trans rfl⟩ (fun hHeld => ?_)
             clear hK K
             refine norm_ (a' := ?_) ?_ ?_
             rotate_left
             ·show Act.put _ (some 110) _ = _
              simp only [Act.put, List.setIfInBounds_toArray, List.set_cons_zero, List.set_cons_succ, i64_w, i32_w]
              rfl
             refine pure_ (i := 7) (N := some 22) (v := ?_) (a' := ?_) bN8_ rfl rfl (any_of HT_.out (by kernel_rfl)) (fun _ _ _ h => h) (Or.inl ⟨by rfl, ?_⟩) ?_ ?_; rotate_left; (intro w'; go_simp; with_reducible rfl); rotate_left; (simp only [Act.put, List.setIfInBounds_toArray, List.set_cons_zero, List.set_cons_succ, i64_w, i32_w]; rfl)
             refine done_ (done_of HT_.out (by kernel_rfl)) ?_
             try go_wp2
             go_ret
             exact ⟨by first | rfl | (simp [errW_none, errW_some] <;> rfl) | (simp [*, errW_none, errW_some] <;> rfl), hx_ HB⟩
            ·replace c75 := Bool.eq_false_iff.mpr c75
             subst c75
             have H1 : (none) = some r := by rw [if_neg (show ¬ (false = true) by decide)] at H; exact H
             clear H
             have H := H1
             clear H1
             exact absurd H (by simp)
           ·replace c74 := Bool.eq_false_iff.mpr c74
            subst c74
            have H1 : (none) = some r := by rw [if_neg (show ¬ (false = true) by decide)] at H; exact H
            clear H
            have H := H1
            clear H1
            exact absurd H (by simp)
          ·rw [if_neg c68] at H
           exact absurd H (by simp)
         ·rw [if_neg c67] at H
          exact absurd H (by simp)
     ·rw [if_neg c47] at H
      exact absurd H (by simp)
    ·rw [if_neg c46] at H
     exact absurd H (by simp)
end Go.Proofs.Ytfjhlcbpogihmaa.Pr
