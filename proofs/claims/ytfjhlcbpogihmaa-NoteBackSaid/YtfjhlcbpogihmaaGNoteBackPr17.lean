/- What the program's functions compute, and that they compute it: printed out of the translation by a program of this session's (px.py, over the kit's printer). Conditions: none. -/
import Derived.Test.YtfjhlcbpogihmaaGNoteBackPr0
import Derived.Test.YtfjhlcbpogihmaaGNoteBackPr10
import Derived.Test.YtfjhlcbpogihmaaGNoteBackHandTakes
namespace Go.Proofs.Ytfjhlcbpogihmaa.Pr
open Go.RowKit Go.Proofs.YtfjhlcbpogihmaaW.PrintWords Go.Proofs.YtfjhlcbpogihmaaW.PrintLast Go.Proofs.YtfjhlcbpogihmaaW.PrintMore
attribute [local go_sem] max2_int min2_int max_two min_two max_three min_three max_four min_four
set_option linter.unusedVariables false
set_option linter.unusedSimpArgs false
/-! ### note_take: function 52 -/
def note_take.f (k : Nat) (a0 : ByteArray) : Option (Int × Int × Int × Int × ByteArray × Bool) := if a0.toList = ([] : List UInt8) then (some (0, 0, 0, 0, (⟨#[]⟩ : ByteArray), false)) else (if 1 ≤ (a0.size : Int) then ((pack_TakeNums.f k (a0.extract 1 a0.size) 3).bind fun bt193 => (if bt193.2.2 = 0 then (if (bt193.1.length : Int) = 3 then (if 0 < (a0.size : Int) then (if 0 < (bt193.1.length : Int) then (if 1 < (bt193.1.length : Int) then (if 2 < (bt193.1.length : Int) then ((note_may.f k (wrap64 (bt a0 0)) (rd bt193.1 0) (rd bt193.1 1) (rd bt193.1 2) bt193.2.1).bind fun t202 => (some (wrap64 (bt a0 0), rd bt193.1 0, rd bt193.1 1, rd bt193.1 2, bt193.2.1, t202))) else (none)) else (none)) else (none)) else (none)) else (some (0, 0, 0, 0, (⟨#[]⟩ : ByteArray), false))) else (some (0, 0, 0, 0, (⟨#[]⟩ : ByteArray), false)))) else (none))
def note_take.T6 : Bool × List (List Nat × List Nat) := (true, [([], []), ([0], [0]), ([1], [1]), ([], []), ([3], [3]), ([4], [4]), ([], []), ([6], [6]), ([7], [7]), ([], []), ([9], [9]), ([10], [10]), ([], []), ([2, 5, 8, 11, 12], [2, 5, 8, 11, 12]), ([], []), ([14, 13, 0, 1, 2, 3, 4, 5, 6, 7, 8, 9, 10, 11, 12, 13, 14], [13, 14])])
def note_take.B6 : List Nat := [0, 1, 3, 0, 8, 24, 0, 64, 192, 0, 512, 1536, 0, 8191, 0, 32767]
theorem note_take.tab6 : rtab .any (opsOf Try.f52 6) = note_take.T6 := by kernel_rfl
theorem note_take.bits6 : waitsOk note_take.T6.2 note_take.B6 = true := by kernel_rfl
namespace Sh17
theorem am_ {p : Prop} (h : p) : Aside0 p := ⟨h⟩
theorem bx_ {Q P : Prop} (b : Aside0 Q) (h : Q → P := by intro hq_; (with_reducible repeat (first | refine blk_drewN ?_ _ | refine blk_drew ?_ | refine blk_alloc ?_ _)); exact hq_) : P := h b.out
theorem hx_ {Q P : Prop} (b : Aside0 Q) (h : Q → P := by intro hq_; repeat (first | (with_reducible first | exact hq_ | apply below_alloc | apply pw_below_drewN | apply below_drew1 | refine below_set ?_ (Aside0.out (by assumption))) | exact hq_)) : P := h b.out
theorem fz_ {Q G P : Prop} (q : Q) (g : Aside0 G) (h : Q → G → P := by intro q_ g_; first | exact Nat.ne_of_lt (Nat.lt_of_lt_of_le (by have := World.block_lt_of_cell? _ _ q_; first | rwa [add_block] at this | exact this) g_) | (rw [add_block]; exact Nat.ne_of_lt (Nat.lt_of_lt_of_le (by have := World.block_lt_of_cell? _ _ q_; first | rwa [add_block] at this | exact this) g_)) | (show (Addr.add _ _).block ≠ _; rw [add_block]; exact Nat.ne_of_lt (Nat.lt_of_lt_of_le (by have := World.block_lt_of_cell? _ _ q_; first | rwa [add_block] at this | exact this) g_)) | (dsimp only; exact Nat.ne_of_lt (Nat.lt_of_lt_of_le (by have := World.block_lt_of_cell? _ _ q_; first | rwa [add_block] at this | exact this) g_))) : P := h q g.out
theorem vx_ {Q P : Prop} (b : Aside0 Q) (h : Q → P := by intro hq_; (with_reducible repeat (first | apply Kd.V_alloc | apply Kd.V_drewN | apply Kd.V_drew)); exact hq_) : P := h b.out
theorem rx_ {Q P : Prop} (b : Aside0 Q) (h : Q → P := by intro hq_; (with_reducible repeat (first | apply Kd.R_alloc | apply Kd.R_drewN | apply Kd.R_drew)); exact hq_) : P := h b.out
theorem nx_ {Q P : Prop} (b : Aside0 Q) (h : Q → P := by intro hq_; (with_reducible repeat (first | apply Kd.N_alloc | apply Kd.N_drewN | apply Kd.N_drew)); exact hq_) : P := h b.out
abbrev bN0_ : Array Bool := #[false, false, false, false, false, false, false, false, false, false, false, false, false, false, false, false]
abbrev bN1_ : Array Bool := #[true, false, false, false, false, false, false, false, false, false, false, false, false, false, false, false]
abbrev bN2_ : Array Bool := #[true, false, false, true, false, false, false, false, false, false, false, false, false, false, false, false]
abbrev bN3_ : Array Bool := #[true, false, false, true, true, false, false, false, false, false, false, false, false, false, false, false]
abbrev bN4_ : Array Bool := #[true, false, false, true, true, false, true, false, false, false, false, false, false, false, false, false]
abbrev bN5_ : Array Bool := #[true, false, false, true, true, false, true, true, false, false, false, false, false, false, false, false]
abbrev bN6_ : Array Bool := #[true, false, false, true, true, false, true, true, false, true, false, false, false, false, false, false]
abbrev bN7_ : Array Bool := #[true, false, false, true, true, false, true, true, false, true, true, false, false, false, false, false]
abbrev bN8_ : Array Bool := #[true, false, false, true, true, false, true, true, false, true, true, false, true, false, false, false]
abbrev bN9_ : Array Bool := #[true, true, false, true, true, false, true, true, false, true, true, false, true, false, false, false]
abbrev bN10_ : Array Bool := #[true, true, true, true, true, false, true, true, false, true, true, false, true, false, false, false]
abbrev bN11_ : Array Bool := #[true, true, true, true, true, true, true, true, false, true, true, false, true, false, false, false]
abbrev bN12_ : Array Bool := #[true, true, true, true, true, true, true, true, true, true, true, false, true, false, false, false]
abbrev bN13_ : Array Bool := #[true, true, true, true, true, true, true, true, true, true, true, true, true, false, false, false]
abbrev bN14_ : Array Bool := #[true, true, true, true, true, true, true, true, true, true, true, true, true, true, false, false]
abbrev bN15_ : Array Bool := #[true, true, true, true, true, true, true, true, true, true, true, true, true, true, true, false]
abbrev bN16_ : Array Bool := #[true, true, true, true, true, true, true, true, true, true, true, true, true, true, true, true]
theorem hy_ {Q P : Prop} (b : Aside0 Q) (h : Q → P := by intro hq_; repeat (first | (with_reducible first | exact hq_ | apply below_alloc | apply pw_below_drewN | apply below_drew1 | refine below_set ?_ (Aside0.out (by assumption))) | exact hq_ | exact Below.refl _ _)) : P := h b.out
theorem bb_ {w w1 w2 : World} {g : Nat} {o : Obj} (b : Aside0 (w.heap[g]? = some o)) (hb : Below w1.heap.size w1 w2) (h : w.heap[g]? = some o → w1.heap[g]? = some o := by intro hq_; (with_reducible repeat (first | refine blk_drewN ?_ _ | refine blk_drew ?_ | refine blk_alloc ?_ _)); exact hq_) : w2.heap[g]? = some o := blk_below (h b.out) hb
theorem bl_ {w w1 : World} {g : Nat} {o : Obj} (b : Aside0 (w.heap[g]? = some o)) (h : w.heap[g]? = some o → w1.heap[g]? = some o := by intro hq_; (with_reducible repeat (first | refine blk_drewN ?_ _ | refine blk_drew ?_ | refine blk_alloc ?_ _)); exact hq_) : g < w1.heap.size := blk_lt (h b.out)
end Sh17
open Sh17
set_option maxHeartbeats 8000000 in
set_option maxRecDepth 100000 in
theorem note_take.calls (k : Nat) (a0 : ByteArray) (r1 : Int) (r2 : Int) (r3 : Int) (r4 : Int) (r5 : ByteArray) (r6 : Bool) (w : World) (h : note_take.f k a0 = some (r1, r2, r3, r4, r5, r6)) :
  Calls Try.prog 52 #[.string a0] w fun e w' => e = .returned (.tuple #[.agg #[.int .i64 r1, .int .u64 r2, .int .u64 r3, .int .u64 r4, .string r5], .bool r6]) ∧ Below w.heap.size w w' := by
 have hu39 := Try.underlying39
 have HB := am_ (Below.refl w.heap.size w)
 have H : (if a0.toList = ([] : List UInt8) then (some (0, 0, 0, 0, (⟨#[]⟩ : ByteArray), false)) else (if 1 ≤ (a0.size : Int) then ((pack_TakeNums.f k (a0.extract 1 a0.size) 3).bind fun bt193 => (if bt193.2.2 = 0 then (if (bt193.1.length : Int) = 3 then (if 0 < (a0.size : Int) then (if 0 < (bt193.1.length : Int) then (if 1 < (bt193.1.length : Int) then (if 2 < (bt193.1.length : Int) then ((note_may.f k (wrap64 (bt a0 0)) (rd bt193.1 0) (rd bt193.1 1) (rd bt193.1 2) bt193.2.1).bind fun t202 => (some (wrap64 (bt a0 0), rd bt193.1 0, rd bt193.1 1, rd bt193.1 2, bt193.2.1, t202))) else (none)) else (none)) else (none)) else (none)) else (some (0, 0, 0, 0, (⟨#[]⟩ : ByteArray), false))) else (some (0, 0, 0, 0, (⟨#[]⟩ : ByteArray), false)))) else (none))) = some (r1, r2, r3, r4, r5, r6) := h
 clear h
 by_cases c2 : a0.toList = ([] : List UInt8)
 ·rw [if_pos c2] at H
  have c2b0 : (a0.toList == ([] : List UInt8)) = true := beq_iff_eq.mpr c2
  have c2b1 : (a0.toList != ([] : List UInt8)) = false := bne_eq_false_iff_eq.mpr c2
  clear c2
  simp only [Option.some.injEq, Prod.mk.injEq] at H
  obtain ⟨rfl, rfl, rfl, rfl, rfl, rfl⟩ := H
  go_enter Try.func52, Try.ntmps52
  go_wp2_with (first | ((with_reducible refine gate_dst (N := 2) rfl ?_); (try (refine gate_guard (by rfl) ?_; dsimp only)); refine box_event ?hg (N := 2) ?hd (cs := #[.int .i64 0, .int .u64 0, .int .u64 0, .int .u64 0, .string (⟨#[]⟩ : ByteArray)]) (t := 39) ?hr ?_; (case hd => rfl); (case hg => rfl); (case hr => first | (go_simp; done) | (go_simp; rfl)); intro gb192 hg w3 hbox hb; have n0_ := am_ (below_step (hy_ HB) hb); have n1_ := am_ (hbox); have n2_ := am_ ((by rw [hg]; exact (below_size (hx_ HB)) : w.heap.size ≤ gb192)); have n3_ := am_ ((by rw [hg]; exact (below_size (hx_ HB)) : w.heap.size ≤ gb192)); clear HB; have HB := n0_; have BK192 := n1_; have GW192 := n2_; have GE192 := n3_; clear n0_ n1_ n2_ n3_; clear hb hbox hg; have hcz4_0 : w3.cell? ⟨gb192, 0, none⟩ = some (.int .i64 0) := (blk_cell BK192.out 0).trans rfl; have hcz4_1 : w3.cell? ⟨gb192, 1, none⟩ = some (.int .u64 0) := (blk_cell BK192.out 1).trans rfl; have hcz4_2 : w3.cell? ⟨gb192, 2, none⟩ = some (.int .u64 0) := (blk_cell BK192.out 2).trans rfl; have hcz4_3 : w3.cell? ⟨gb192, 3, none⟩ = some (.int .u64 0) := (blk_cell BK192.out 3).trans rfl; have hcz4_4 : w3.cell? ⟨gb192, 4, none⟩ = some (.string (⟨#[]⟩ : ByteArray)) := (blk_cell BK192.out 4).trans rfl; have hfz4_0 := blk_frozen BK192.out 0; have hfz4_1 := blk_frozen BK192.out 1; have hfz4_2 := blk_frozen BK192.out 2; have hfz4_3 := blk_frozen BK192.out 3; have hfz4_4 := blk_frozen BK192.out 4))
  refine bodyPost_ret (results_ct rfl _ _ gb192 39 #[.int .i64 0, .int .u64 0, .int .u64 0, .int .u64 0, .string (⟨#[]⟩ : ByteArray)] (0, 0) _ rfl (by (with_reducible repeat (first | refine blk_drewN ?_ _ | refine blk_drew ?_ | refine blk_alloc ?_ _)); refine blk_put (cs := #[.int .i64 0, .int .u64 0, .int .u64 0, .int .u64 0, .string (⟨#[]⟩ : ByteArray)]) ?_ 4 _ rfl; (with_reducible repeat (first | refine blk_drewN ?_ _ | refine blk_drew ?_ | refine blk_alloc ?_ _)); refine blk_put (cs := #[.int .i64 0, .int .u64 0, .int .u64 0, .int .u64 0, .string (⟨#[]⟩ : ByteArray)]) ?_ 3 _ rfl; (with_reducible repeat (first | refine blk_drewN ?_ _ | refine blk_drew ?_ | refine blk_alloc ?_ _)); refine blk_put (cs := #[.int .i64 0, .int .u64 0, .int .u64 0, .int .u64 0, .string (⟨#[]⟩ : ByteArray)]) ?_ 2 _ rfl; (with_reducible repeat (first | refine blk_drewN ?_ _ | refine blk_drew ?_ | refine blk_alloc ?_ _)); refine blk_put (cs := #[.int .i64 0, .int .u64 0, .int .u64 0, .int .u64 0, .string (⟨#[]⟩ : ByteArray)]) ?_ 1 _ rfl; (with_reducible repeat (first | refine blk_drewN ?_ _ | refine blk_drew ?_ | refine blk_alloc ?_ _)); refine blk_put (cs := #[.int .i64 0, .int .u64 0, .int .u64 0, .int .u64 0, .string (⟨#[]⟩ : ByteArray)]) ?_ 0 _ rfl; (with_reducible repeat (first | refine blk_drewN ?_ _ | refine blk_drew ?_ | refine blk_alloc ?_ _)); exact BK192.out) Try.underlying39 rfl (by kernel_rfl)) rfl ?_
  exact ⟨by first | rfl | (simp [errW_none, errW_some] <;> rfl) | (simp [*, errW_none, errW_some] <;> rfl), hx_ HB⟩
 ·rw [if_neg c2] at H
  have c2b0 : (a0.toList == ([] : List UInt8)) = false := beq_eq_false_iff_ne.mpr c2
  have c2b1 : (a0.toList != ([] : List UInt8)) = true := bne_iff_ne.mpr c2
  by_cases c5 : 1 ≤ (a0.size : Int)
  ·rw [if_pos c5] at H
   have c5b0 := eq_true c5
   have c5b1 : decide (1 ≤ (a0.size : Int)) = true := decide_eq_true c5
   clear c5
   replace H := Option.bind_eq_some_iff.mp H
   obtain ⟨⟨t193, t194, t195⟩, A60, H⟩ := H
   replace H : (if t195 = 0 then (if (t193.length : Int) = 3 then (if 0 < (a0.size : Int) then (if 0 < (t193.length : Int) then (if 1 < (t193.length : Int) then (if 2 < (t193.length : Int) then ((note_may.f k (wrap64 (bt a0 0)) (rd t193 0) (rd t193 1) (rd t193 2) t194).bind fun t202 => (some (wrap64 (bt a0 0), rd t193 0, rd t193 1, rd t193 2, t194, t202))) else (none)) else (none)) else (none)) else (none)) else (some (0, 0, 0, 0, (⟨#[]⟩ : ByteArray), false))) else (some (0, 0, 0, 0, (⟨#[]⟩ : ByteArray), false))) = some (r1, r2, r3, r4, r5, r6) := H
   have A6 := am_ A60
   clear A60
   by_cases c7 : t195 = 0
   ·rw [if_pos c7] at H
    have c7b0 : (t195 == 0) = true := beq_iff_eq.mpr c7
    have c7b1 : (t195 != 0) = false := bne_eq_false_iff_eq.mpr c7
    clear c7
    by_cases c8 : (t193.length : Int) = 3
    ·rw [if_pos c8] at H
     have c8b0 : ((t193.length : Int) == 3) = true := beq_iff_eq.mpr c8
     have c8b1 : ((t193.length : Int) != 3) = false := bne_eq_false_iff_eq.mpr c8
     clear c8
     by_cases c9 : 0 < (a0.size : Int)
     ·rw [if_pos c9] at H
      have c9b0 : decide (0 < (a0.size : Int)) = true := decide_eq_true c9
      have c9b1 : decide (0 < a0.size) = true := decide_eq_true (by omega)
      clear c9
      by_cases c11 : 0 < (t193.length : Int)
      ·rw [if_pos c11] at H
       have c11b0 : decide (0 < (t193.length : Int)) = true := decide_eq_true c11
       have c11b1 : decide (0 < t193.length) = true := decide_eq_true (by omega)
       clear c11
       by_cases c12 : 1 < (t193.length : Int)
       ·rw [if_pos c12] at H
        have c12b0 : decide (1 < (t193.length : Int)) = true := decide_eq_true c12
        have c12b1 : decide (1 < t193.length) = true := decide_eq_true (by omega)
        clear c12
        by_cases c13 : 2 < (t193.length : Int)
        ·rw [if_pos c13] at H
         have c13b0 : decide (2 < (t193.length : Int)) = true := decide_eq_true c13
         have c13b1 : decide (2 < t193.length) = true := decide_eq_true (by omega)
         clear c13
         replace H := Option.bind_eq_some_iff.mp H
         obtain ⟨t202, A140, H⟩ := H
         replace H : (some (wrap64 (bt a0 0), rd t193 0, rd t193 1, rd t193 2, t194, t202)) = some (r1, r2, r3, r4, r5, r6) := H
         have A14 := am_ A140
         clear A140
         simp only [Option.some.injEq, Prod.mk.injEq] at H
         obtain ⟨rfl, rfl, rfl, rfl, rfl, rfl⟩ := H
         go_enter Try.func52, Try.ntmps52
         try go_wp2_with (first | ((with_reducible refine gate_dst (N := 2) rfl ?_); (try (refine gate_guard (by rfl) ?_; dsimp only)); refine box_event ?hg (N := 2) ?hd (cs := #[.int .i64 0, .int .u64 0, .int .u64 0, .int .u64 0, .string (⟨#[]⟩ : ByteArray)]) (t := 39) ?hr ?_; (case hd => rfl); (case hg => rfl); (case hr => first | (go_simp; done) | (go_simp; rfl)); intro gb192 hg w15 hbox hb; have n0_ := am_ (below_step (hy_ HB) hb); have n1_ := am_ (hbox); have n2_ := am_ ((by rw [hg]; exact (below_size (hx_ HB)) : w.heap.size ≤ gb192)); have n3_ := am_ ((by rw [hg]; exact (below_size (hx_ HB)) : w.heap.size ≤ gb192)); clear HB; have HB := n0_; have BK192 := n1_; have GW192 := n2_; have GE192 := n3_; clear n0_ n1_ n2_ n3_; clear hb hbox hg) | ((with_reducible refine gate_callee (f := 83) rfl ?_); refine goesL_ (some 14) rfl rfl Try.func83 (by kernel_rfl) rfl #[.string (a0.extract 1 a0.size), .int .i64 3] rfl (by (try simp only [List.map_toArray, List.map_cons, List.map_nil]); first | done | rfl | (simp only [List.length_drop, List.length_take]; rfl)) ?_; (with_reducible refine (pack_TakeNums.calls k (a0.extract 1 a0.size) 3 t193 t194 t195 _ A6.out).mono ?_); rintro e w16 ⟨v196, rfl, ho0, hb⟩; refine ⟨_, rfl, ?_⟩; have n0_ := am_ (Kd.R_lower ho0 (below_size (hx_ HB))); have n1_ := am_ (bb_ BK192 hb); have n2_ := am_ (below_step (hy_ HB) hb); clear BK192 HB; have HO197 := n0_; have BK192 := n1_; have HB := n2_; clear n0_ n1_ n2_; (try clear hb); (try clear hb2); (try clear hk); (try clear hi); (try clear ho0); obtain ⟨Ao17, co17, eo17⟩ := Kd.R_slice HO197.out; subst eo17))
         have n0_ := am_ (Kd.R_drew HO197.out)
         have n1_ := am_ (blk_drew BK192.out)
         have n2_ := am_ (below_drew1 HB.out)
         clear HO197
         clear BK192
         clear HB
         have HO197 := n0_
         have BK192 := n1_
         have HB := n2_
         clear n0_ n1_ n2_
         have p10 : 0 ≤ (0 : Int) := (by omega)
         have q10 : 0 < a0.size := (by have : (0 : Int) < (a0.size : Int) := of_decide_eq_true (by first | (with_reducible assumption) | assumption); omega)
         have hx10 : ∀ h : 0 < a0.size, ((a0[0]'h).toNat : Int) = bt a0 0 := bt_at a0 0
         clear p10
         have qi10 : (0 < (a0.size : Int)) = True := eq_true (of_decide_eq_true (by first | (with_reducible assumption) | assumption))
         replace q10 := eq_true q10
         have p198 : 0 ≤ (0 : Int) := (by omega)
         have q198 : 0 < (t193.length : Int) := of_decide_eq_true (by first | (with_reducible assumption) | assumption)
         obtain ⟨ad198, e198, hx198_0⟩ := Kd.at_int (Kd.R_reads' HO197.out).2.2 0 p198 q198
         cases e198
         have qi198 : (0 < t193.length) = True := eq_true (by omega)
         (try rw [show ((0 : Int)).toNat = 0 from rfl] at hx198_0)
         (try rw [Addr.add_zero'] at hx198_0)
         replace p198 := eq_true p198
         replace q198 := eq_true q198
         have p199 : 0 ≤ (1 : Int) := (by omega)
         have q199 : 1 < (t193.length : Int) := of_decide_eq_true (by first | (with_reducible assumption) | assumption)
         obtain ⟨ad199, e199, hx199_0⟩ := Kd.at_int (Kd.R_reads' HO197.out).2.2 1 p199 q199
         obtain rfl : ad198 = ad199 := (by injection e199)
         (try simp only [show (1 : Int).toNat = 1 from rfl, Nat.reduceMul, Nat.reduceEqDiff, Go.Addr.add, ↓reduceIte] at hx199_0)
         have qi199 : (1 < t193.length) = True := eq_true (by omega)
         (try rw [show ((1 : Int)).toNat = 1 from rfl] at hx199_0)
         replace p199 := eq_true p199
         replace q199 := eq_true q199
         have p200 : 0 ≤ (2 : Int) := (by omega)
         have q200 : 2 < (t193.length : Int) := of_decide_eq_true (by first | (with_reducible assumption) | assumption)
         obtain ⟨ad200, e200, hx200_0⟩ := Kd.at_int (Kd.R_reads' HO197.out).2.2 2 p200 q200
         obtain rfl : ad198 = ad200 := (by injection e200)
         (try simp only [show (2 : Int).toNat = 2 from rfl, Nat.reduceMul, Nat.reduceEqDiff, Go.Addr.add, ↓reduceIte] at hx200_0)
         have qi200 : (2 < t193.length) = True := eq_true (by omega)
         (try rw [show ((2 : Int)).toNat = 2 from rfl] at hx200_0)
         replace p200 := eq_true p200
         replace q200 := eq_true q200
         refine start_ (n := 16) (S := fun w' => w'.cell? ad198 = some (.int .u64 (rd t193 0)) ∧ w'.cell? ⟨ad198.block, ad198.off + 1, none⟩ = some (.int .u64 (rd t193 1)) ∧ w'.cell? ⟨ad198.block, ad198.off + 2, none⟩ = some (.int .u64 (rd t193 2))) (ds := []) bN0_ (by kernel_rfl) rfl rfl ⟨hx198_0, hx199_0, hx200_0⟩ (fun hHeld => ?_); refine with_tabW note_take.tab6 note_take.bits6 (fun HT_ HW_ => ?_)
         generalize w16.drew = w18 at HO197 BK192 HB hx198_0 hx199_0 hx200_0 hHeld ⊢
         refine pure_ (i := 0) (N := some 26) (v := ?_) (a' := ?_) bN1_ rfl rfl (any_of HT_.out (by kernel_rfl)) (fun _ _ _ h => h) (Or.inl ⟨by rfl, ?_⟩) ?_ ?_; rotate_left; (intro w'; go_simp; with_reducible rfl); rotate_left; (simp only [Act.put, List.setIfInBounds_toArray, List.set_cons_zero, List.set_cons_succ, i64_w, i32_w]; rfl)
         refine pure_ (i := 3) (N := some 29) (v := ?_) (a' := ?_) bN2_ rfl rfl (any_of HT_.out (by kernel_rfl)) (fun _ _ _ h => h) (Or.inl ⟨by rfl, ?_⟩) ?_ ?_; rotate_left; (intro w'; go_simp; with_reducible rfl); rotate_left; (simp only [Act.put, List.setIfInBounds_toArray, List.set_cons_zero, List.set_cons_succ, i64_w, i32_w]; rfl)
         refine pure_ (i := 4) (N := some 30) (v := ?_) (a' := ?_) bN3_ rfl rfl (any_of HT_.out (by kernel_rfl)) (fun _ _ _ h => h) (Or.inl ⟨by rfl, ?_⟩) ?_ ?_; rotate_left; (intro w'; go_simp; with_reducible rfl); rotate_left; (simp only [Act.put, List.setIfInBounds_toArray, List.set_cons_zero, List.set_cons_succ, i64_w, i32_w]; rfl)
         refine pure_ (i := 6) (N := some 32) (v := ?_) (a' := ?_) bN4_ rfl rfl (any_of HT_.out (by kernel_rfl)) (fun _ _ _ h => h) (Or.inl ⟨by rfl, ?_⟩) ?_ ?_; rotate_left; (intro w'; go_simp; with_reducible rfl); rotate_left; (simp only [Act.put, List.setIfInBounds_toArray, List.set_cons_zero, List.set_cons_succ, i64_w, i32_w]; rfl)
         refine pure_ (i := 7) (N := some 33) (v := ?_) (a' := ?_) bN5_ rfl rfl (any_of HT_.out (by kernel_rfl)) (fun _ _ _ h => h) (Or.inl ⟨by rfl, ?_⟩) ?_ ?_; rotate_left; (intro w'; go_simp; with_reducible rfl); rotate_left; (simp only [Act.put, List.setIfInBounds_toArray, List.set_cons_zero, List.set_cons_succ, i64_w, i32_w]; rfl)
         refine pure_ (i := 9) (N := some 35) (v := ?_) (a' := ?_) bN6_ rfl rfl (any_of HT_.out (by kernel_rfl)) (fun _ _ _ h => h) (Or.inl ⟨by rfl, ?_⟩) ?_ ?_; rotate_left; (intro w'; go_simp; with_reducible rfl); rotate_left; (simp only [Act.put, List.setIfInBounds_toArray, List.set_cons_zero, List.set_cons_succ, i64_w, i32_w]; rfl)
         refine pure_ (i := 10) (N := some 36) (v := ?_) (a' := ?_) bN7_ rfl rfl (any_of HT_.out (by kernel_rfl)) (fun _ _ _ h => h) (Or.inl ⟨by rfl, ?_⟩) ?_ ?_; rotate_left; (intro w'; go_simp; with_reducible rfl); rotate_left; (simp only [Act.put, List.setIfInBounds_toArray, List.set_cons_zero, List.set_cons_succ, i64_w, i32_w]; rfl)
         refine pure_ (i := 12) (N := some 38) (v := ?_) (a' := ?_) bN8_ rfl rfl (any_of HT_.out (by kernel_rfl)) (fun _ _ _ h => h) (Or.inl ⟨by rfl, ?_⟩) ?_ ?_; rotate_left; (intro w'; go_simp; with_reducible rfl); rotate_left; (simp only [Act.put, List.setIfInBounds_toArray, List.set_cons_zero, List.set_cons_succ, i64_w, i32_w]; rfl)
         refine take_ (i := 1) (N := some 27) (v := ?_) (a' := ?_) bN9_ rfl rfl (take_ofW HT_.out HW_.out (by kernel_rfl)) (fun _ _ _ h => h) (Or.inl ⟨by rfl, ?_⟩) hHeld ?_ ?_; rotate_left; (rintro w' ⟨s0, s1, s2⟩; go_simp; with_reducible rfl); rotate_left; (simp only [Act.put, List.setIfInBounds_toArray, List.set_cons_zero, List.set_cons_succ, i64_w, i32_w]; rfl)
         refine pure_ (i := 2) (N := some 28) (v := ?_) (a' := ?_) bN10_ rfl rfl (any_of HT_.out (by kernel_rfl)) (fun _ _ _ h => h) (Or.inl ⟨by rfl, ?_⟩) ?_ ?_; rotate_left; (intro w'; go_simp; with_reducible rfl); rotate_left; (simp only [Act.put, List.setIfInBounds_toArray, List.set_cons_zero, List.set_cons_succ, i64_w, i32_w]; rfl)
         refine take_ (i := 5) (N := some 31) (v := ?_) (a' := ?_) bN11_ rfl rfl (take_ofW HT_.out HW_.out (by kernel_rfl)) (fun _ _ _ h => h) (Or.inl ⟨by rfl, ?_⟩) hHeld ?_ ?_; rotate_left; (rintro w' ⟨s0, s1, s2⟩; go_simp; with_reducible rfl); rotate_left; (simp only [Act.put, List.setIfInBounds_toArray, List.set_cons_zero, List.set_cons_succ, i64_w, i32_w]; rfl)
         refine take_ (i := 8) (N := some 34) (v := ?_) (a' := ?_) bN12_ rfl rfl (take_ofW HT_.out HW_.out (by kernel_rfl)) (fun _ _ _ h => h) (Or.inl ⟨by rfl, ?_⟩) hHeld ?_ ?_; rotate_left; (rintro w' ⟨s0, s1, s2⟩; go_simp; with_reducible rfl); rotate_left; (simp only [Act.put, List.setIfInBounds_toArray, List.set_cons_zero, List.set_cons_succ, i64_w, i32_w]; rfl)
         refine take_ (i := 11) (N := some 37) (v := ?_) (a' := ?_) bN13_ rfl rfl (take_ofW HT_.out HW_.out (by kernel_rfl)) (fun _ _ _ h => h) (Or.inl ⟨by rfl, ?_⟩) hHeld ?_ ?_; rotate_left; (rintro w' ⟨s0, s1, s2⟩; go_simp; with_reducible rfl); rotate_left; (simp only [Act.put, List.setIfInBounds_toArray, List.set_cons_zero, List.set_cons_succ, i64_w, i32_w]; rfl)
         refine pure_ (i := 13) (N := some 39) (v := ?_) (a' := ?_) bN14_ rfl rfl (any_of HT_.out (by kernel_rfl)) (fun _ _ _ h => h) (Or.inl ⟨by rfl, ?_⟩) ?_ ?_; rotate_left; (intro w'; go_simp; with_reducible rfl); rotate_left; (simp only [Act.put, List.setIfInBounds_toArray, List.set_cons_zero, List.set_cons_succ, i64_w, i32_w]; rfl)
         refine one_ (i := 14) (N := some 7) bN15_ rfl rfl (one_of HT_.out (by kernel_rfl)) (by decide) (fun K hK => ?_)
         refine box_step ?hg (N := 7) ?hd (cs := #[.int .i64 0, .int .u64 0, .int .u64 0, .int .u64 0, .string (⟨#[]⟩ : ByteArray)]) (t := 39) ?hr ?_; (case hd => rfl); (case hg => rfl); (case hr => first | (go_simp; done) | (go_simp; rfl))
         intro gb201 hg w19 hbox hb
         have HS0_ := (hb.cell (World.block_lt_of_cell? _ _ (hHeld.1))).trans (hHeld.1)
         have HS1_ := (hb.cell (World.block_lt_of_cell? _ _ (hHeld.2.1))).trans (hHeld.2.1)
         have HS2_ := (hb.cell (World.block_lt_of_cell? _ _ (hHeld.2.2))).trans (hHeld.2.2)
         have n0_ := am_ (Kd.R_below (rx_ HO197) hb)
         have n1_ := am_ (bb_ BK192 hb)
         have n2_ := am_ (below_step (hy_ HB) hb)
         have n3_ := am_ (hbox)
         have n4_ := am_ ((by rw [hg]; exact (below_size (hx_ HB)) : w.heap.size ≤ gb201))
         have n5_ := am_ ((by rw [hg]; exact (below_size (hx_ HB)) : w.heap.size ≤ gb201))
         have n6_ := am_ ((by rw [hg]; exact Nat.ne_of_lt (bl_ BK192) : gb192 ≠ gb201))
         have n7_ := am_ ((by rw [hg]; exact Nat.ne_of_gt (bl_ BK192) : gb201 ≠ gb192))
         clear HO197
         clear BK192
         clear HB
         have HO197 := n0_
         have BK192 := n1_
         have HB := n2_
         have BK201 := n3_
         have GW201 := n4_
         have GE201 := n5_
         have NB192_201 := n6_
         have NB201_192 := n7_
         clear n0_ n1_ n2_ n3_ n4_ n5_ n6_ n7_
         clear hb hbox hg
         refine hK.out _ _ ⟨HS0_, HS1_, HS2_⟩ (fun hHeld => ?_)
         clear hK K
         refine norm_ (a' := ?_) ?_ ?_
         rotate_left
         ·show Act.put _ (some 7) _ = _
          simp only [Act.put, List.setIfInBounds_toArray, List.set_cons_zero, List.set_cons_succ, i64_w, i32_w]
          rfl
         refine one_ (i := 15) (N := none) bN16_ rfl rfl (one_of HT_.out (by kernel_rfl)) (by decide) (fun K hK => ?_)
         have hs20 : w19.cell? ⟨gb201, 0, none⟩ = some (.int .i64 0) := (blk_cell BK201.out 0).trans rfl
         have hfs20 := blk_frozen BK201.out 0
         have hns20_0 := NB192_201.out
         have hms20_0 := NB201_192.out
         have hs21 : w19.cell? ⟨gb201, 1, none⟩ = some (.int .u64 0) := (blk_cell BK201.out 1).trans rfl
         have hfs21 := blk_frozen BK201.out 1
         have hns21_0 := NB192_201.out
         have hms21_0 := NB201_192.out
         have hs22 : w19.cell? ⟨gb201, 2, none⟩ = some (.int .u64 0) := (blk_cell BK201.out 2).trans rfl
         have hfs22 := blk_frozen BK201.out 2
         have hns22_0 := NB192_201.out
         have hms22_0 := NB201_192.out
         have hs23 : w19.cell? ⟨gb201, 3, none⟩ = some (.int .u64 0) := (blk_cell BK201.out 3).trans rfl
         have hfs23 := blk_frozen BK201.out 3
         have hns23_0 := NB192_201.out
         have hms23_0 := NB201_192.out
         have hs24 : w19.cell? ⟨gb201, 4, none⟩ = some (.string (⟨#[]⟩ : ByteArray)) := (blk_cell BK201.out 4).trans rfl
         have hfs24 := blk_frozen BK201.out 4
         have hns24_0 := NB192_201.out
         have hms24_0 := NB201_192.out
         refine skip_ (w1 := ?_) (by rfl) rfl ?_ ?_
         rotate_left
         ·go_simp
          rfl
         refine hK.out _ _ ⟨((cell_far (p := ⟨gb201, _, none⟩) (by first | exact Kd.own_blk (Kd.R_ne HO197.out BK201.out (by decide)) | (rw [add_block]; exact Kd.own_blk (Kd.R_ne HO197.out BK201.out (by decide))) | (show (Addr.add _ _).block ≠ _; rw [add_block]; exact Kd.own_blk (Kd.R_ne HO197.out BK201.out (by decide))) | (dsimp only; exact Kd.own_blk (Kd.R_ne HO197.out BK201.out (by decide)))) _).trans (((cell_far (p := ⟨gb201, _, none⟩) (by first | exact Kd.own_blk (Kd.R_ne HO197.out BK201.out (by decide)) | (rw [add_block]; exact Kd.own_blk (Kd.R_ne HO197.out BK201.out (by decide))) | (show (Addr.add _ _).block ≠ _; rw [add_block]; exact Kd.own_blk (Kd.R_ne HO197.out BK201.out (by decide))) | (dsimp only; exact Kd.own_blk (Kd.R_ne HO197.out BK201.out (by decide)))) _).trans (((cell_far (p := ⟨gb201, _, none⟩) (by first | exact Kd.own_blk (Kd.R_ne HO197.out BK201.out (by decide)) | (rw [add_block]; exact Kd.own_blk (Kd.R_ne HO197.out BK201.out (by decide))) | (show (Addr.add _ _).block ≠ _; rw [add_block]; exact Kd.own_blk (Kd.R_ne HO197.out BK201.out (by decide))) | (dsimp only; exact Kd.own_blk (Kd.R_ne HO197.out BK201.out (by decide)))) _).trans (((cell_far (p := ⟨gb201, _, none⟩) (by first | exact Kd.own_blk (Kd.R_ne HO197.out BK201.out (by decide)) | (rw [add_block]; exact Kd.own_blk (Kd.R_ne HO197.out BK201.out (by decide))) | (show (Addr.add _ _).block ≠ _; rw [add_block]; exact Kd.own_blk (Kd.R_ne HO197.out BK201.out (by decide))) | (dsimp only; exact Kd.own_blk (Kd.R_ne HO197.out BK201.out (by decide)))) _).trans (((cell_far (p := ⟨gb201, _, none⟩) (by first | exact Kd.own_blk (Kd.R_ne HO197.out BK201.out (by decide)) | (rw [add_block]; exact Kd.own_blk (Kd.R_ne HO197.out BK201.out (by decide))) | (show (Addr.add _ _).block ≠ _; rw [add_block]; exact Kd.own_blk (Kd.R_ne HO197.out BK201.out (by decide))) | (dsimp only; exact Kd.own_blk (Kd.R_ne HO197.out BK201.out (by decide)))) _).trans (hHeld.1)))))))))), ((cell_far (p := ⟨gb201, _, none⟩) (by first | exact Kd.own_blk (Kd.R_ne HO197.out BK201.out (by decide)) | (rw [add_block]; exact Kd.own_blk (Kd.R_ne HO197.out BK201.out (by decide))) | (show (Addr.add _ _).block ≠ _; rw [add_block]; exact Kd.own_blk (Kd.R_ne HO197.out BK201.out (by decide))) | (dsimp only; exact Kd.own_blk (Kd.R_ne HO197.out BK201.out (by decide)))) _).trans (((cell_far (p := ⟨gb201, _, none⟩) (by first | exact Kd.own_blk (Kd.R_ne HO197.out BK201.out (by decide)) | (rw [add_block]; exact Kd.own_blk (Kd.R_ne HO197.out BK201.out (by decide))) | (show (Addr.add _ _).block ≠ _; rw [add_block]; exact Kd.own_blk (Kd.R_ne HO197.out BK201.out (by decide))) | (dsimp only; exact Kd.own_blk (Kd.R_ne HO197.out BK201.out (by decide)))) _).trans (((cell_far (p := ⟨gb201, _, none⟩) (by first | exact Kd.own_blk (Kd.R_ne HO197.out BK201.out (by decide)) | (rw [add_block]; exact Kd.own_blk (Kd.R_ne HO197.out BK201.out (by decide))) | (show (Addr.add _ _).block ≠ _; rw [add_block]; exact Kd.own_blk (Kd.R_ne HO197.out BK201.out (by decide))) | (dsimp only; exact Kd.own_blk (Kd.R_ne HO197.out BK201.out (by decide)))) _).trans (((cell_far (p := ⟨gb201, _, none⟩) (by first | exact Kd.own_blk (Kd.R_ne HO197.out BK201.out (by decide)) | (rw [add_block]; exact Kd.own_blk (Kd.R_ne HO197.out BK201.out (by decide))) | (show (Addr.add _ _).block ≠ _; rw [add_block]; exact Kd.own_blk (Kd.R_ne HO197.out BK201.out (by decide))) | (dsimp only; exact Kd.own_blk (Kd.R_ne HO197.out BK201.out (by decide)))) _).trans (((cell_far (p := ⟨gb201, _, none⟩) (by first | exact Kd.own_blk (Kd.R_ne HO197.out BK201.out (by decide)) | (rw [add_block]; exact Kd.own_blk (Kd.R_ne HO197.out BK201.out (by decide))) | (show (Addr.add _ _).block ≠ _; rw [add_block]; exact Kd.own_blk (Kd.R_ne HO197.out BK201.out (by decide))) | (dsimp only; exact Kd.own_blk (Kd.R_ne HO197.out BK201.out (by decide)))) _).trans (hHeld.2.1)))))))))), ((cell_far (p := ⟨gb201, _, none⟩) (by first | exact Kd.own_blk (Kd.R_ne HO197.out BK201.out (by decide)) | (rw [add_block]; exact Kd.own_blk (Kd.R_ne HO197.out BK201.out (by decide))) | (show (Addr.add _ _).block ≠ _; rw [add_block]; exact Kd.own_blk (Kd.R_ne HO197.out BK201.out (by decide))) | (dsimp only; exact Kd.own_blk (Kd.R_ne HO197.out BK201.out (by decide)))) _).trans (((cell_far (p := ⟨gb201, _, none⟩) (by first | exact Kd.own_blk (Kd.R_ne HO197.out BK201.out (by decide)) | (rw [add_block]; exact Kd.own_blk (Kd.R_ne HO197.out BK201.out (by decide))) | (show (Addr.add _ _).block ≠ _; rw [add_block]; exact Kd.own_blk (Kd.R_ne HO197.out BK201.out (by decide))) | (dsimp only; exact Kd.own_blk (Kd.R_ne HO197.out BK201.out (by decide)))) _).trans (((cell_far (p := ⟨gb201, _, none⟩) (by first | exact Kd.own_blk (Kd.R_ne HO197.out BK201.out (by decide)) | (rw [add_block]; exact Kd.own_blk (Kd.R_ne HO197.out BK201.out (by decide))) | (show (Addr.add _ _).block ≠ _; rw [add_block]; exact Kd.own_blk (Kd.R_ne HO197.out BK201.out (by decide))) | (dsimp only; exact Kd.own_blk (Kd.R_ne HO197.out BK201.out (by decide)))) _).trans (((cell_far (p := ⟨gb201, _, none⟩) (by first | exact Kd.own_blk (Kd.R_ne HO197.out BK201.out (by decide)) | (rw [add_block]; exact Kd.own_blk (Kd.R_ne HO197.out BK201.out (by decide))) | (show (Addr.add _ _).block ≠ _; rw [add_block]; exact Kd.own_blk (Kd.R_ne HO197.out BK201.out (by decide))) | (dsimp only; exact Kd.own_blk (Kd.R_ne HO197.out BK201.out (by decide)))) _).trans (((cell_far (p := ⟨gb201, _, none⟩) (by first | exact Kd.own_blk (Kd.R_ne HO197.out BK201.out (by decide)) | (rw [add_block]; exact Kd.own_blk (Kd.R_ne HO197.out BK201.out (by decide))) | (show (Addr.add _ _).block ≠ _; rw [add_block]; exact Kd.own_blk (Kd.R_ne HO197.out BK201.out (by decide))) | (dsimp only; exact Kd.own_blk (Kd.R_ne HO197.out BK201.out (by decide)))) _).trans (hHeld.2.2))))))))))⟩ (fun hHeld => ?_)
         clear hK K
         refine done_ (done_of HT_.out (by kernel_rfl)) ?_
         try go_wp2
         have n0_ : Aside0 (Kd.R (Kd.int .u64) 25 (((((w19.setCell ⟨gb201, 0, none⟩ (.int .i64 (wrap64 (bt a0 0)))).setCell ⟨gb201, 1, none⟩ (.int .u64 (rd t193 0))).setCell ⟨gb201, 2, none⟩ (.int .u64 (rd t193 1))).setCell ⟨gb201, 3, none⟩ (.int .u64 (rd t193 2))).setCell ⟨gb201, 4, none⟩ (.string t194)) w.heap.size (fun _ => True) (.slice (some ad198) t193.length co17) t193) := ⟨by (with_reducible repeat (first | apply Kd.R_alloc | apply Kd.R_drewN | apply Kd.R_drew)); exact Kd.R_mono (Kd.R_far (p := ⟨gb201, 4, none⟩) (Kd.R_far (p := ⟨gb201, 3, none⟩) (Kd.R_far (p := ⟨gb201, 2, none⟩) (Kd.R_far (p := ⟨gb201, 1, none⟩) (Kd.R_far (p := ⟨gb201, 0, none⟩) (Kd.R_types HO197.out BK201.out (by decide)) (fun _ hk => hk.2) (.int .i64 (wrap64 (bt a0 0)))) (fun _ hk => hk.2) (.int .u64 (rd t193 0))) (fun _ hk => hk.2) (.int .u64 (rd t193 1))) (fun _ hk => hk.2) (.int .u64 (rd t193 2))) (fun _ hk => hk.2) (.string t194)) (fun _ hk => trivial)⟩
         have n1_ : Aside0 ((((((w19.setCell ⟨gb201, 0, none⟩ (.int .i64 (wrap64 (bt a0 0)))).setCell ⟨gb201, 1, none⟩ (.int .u64 (rd t193 0))).setCell ⟨gb201, 2, none⟩ (.int .u64 (rd t193 1))).setCell ⟨gb201, 3, none⟩ (.int .u64 (rd t193 2))).setCell ⟨gb201, 4, none⟩ (.string t194)).heap[gb192]? = some (.cells #[.int .i64 0, .int .u64 0, .int .u64 0, .int .u64 0, .string (⟨#[]⟩ : ByteArray)] 39 (0, 0))) := ⟨by (with_reducible repeat (first | refine blk_drewN ?_ _ | refine blk_drew ?_ | refine blk_alloc ?_ _)); refine blk_far ?_ NB192_201.out _; (with_reducible repeat (first | refine blk_drewN ?_ _ | refine blk_drew ?_ | refine blk_alloc ?_ _)); refine blk_far ?_ NB192_201.out _; (with_reducible repeat (first | refine blk_drewN ?_ _ | refine blk_drew ?_ | refine blk_alloc ?_ _)); refine blk_far ?_ NB192_201.out _; (with_reducible repeat (first | refine blk_drewN ?_ _ | refine blk_drew ?_ | refine blk_alloc ?_ _)); refine blk_far ?_ NB192_201.out _; (with_reducible repeat (first | refine blk_drewN ?_ _ | refine blk_drew ?_ | refine blk_alloc ?_ _)); refine blk_far ?_ NB192_201.out _; (with_reducible repeat (first | refine blk_drewN ?_ _ | refine blk_drew ?_ | refine blk_alloc ?_ _)); exact BK192.out⟩
         have n2_ : Aside0 ((((((w19.setCell ⟨gb201, 0, none⟩ (.int .i64 (wrap64 (bt a0 0)))).setCell ⟨gb201, 1, none⟩ (.int .u64 (rd t193 0))).setCell ⟨gb201, 2, none⟩ (.int .u64 (rd t193 1))).setCell ⟨gb201, 3, none⟩ (.int .u64 (rd t193 2))).setCell ⟨gb201, 4, none⟩ (.string t194)).heap[gb201]? = some (.cells #[.int .i64 (wrap64 (bt a0 0)), .int .u64 (rd t193 0), .int .u64 (rd t193 1), .int .u64 (rd t193 2), .string t194] 39 (0, 0))) := ⟨by (with_reducible repeat (first | refine blk_drewN ?_ _ | refine blk_drew ?_ | refine blk_alloc ?_ _)); refine blk_put (cs := #[.int .i64 (wrap64 (bt a0 0)), .int .u64 (rd t193 0), .int .u64 (rd t193 1), .int .u64 (rd t193 2), .string (⟨#[]⟩ : ByteArray)]) ?_ 4 _ rfl; (with_reducible repeat (first | refine blk_drewN ?_ _ | refine blk_drew ?_ | refine blk_alloc ?_ _)); refine blk_put (cs := #[.int .i64 (wrap64 (bt a0 0)), .int .u64 (rd t193 0), .int .u64 (rd t193 1), .int .u64 0, .string (⟨#[]⟩ : ByteArray)]) ?_ 3 _ rfl; (with_reducible repeat (first | refine blk_drewN ?_ _ | refine blk_drew ?_ | refine blk_alloc ?_ _)); refine blk_put (cs := #[.int .i64 (wrap64 (bt a0 0)), .int .u64 (rd t193 0), .int .u64 0, .int .u64 0, .string (⟨#[]⟩ : ByteArray)]) ?_ 2 _ rfl; (with_reducible repeat (first | refine blk_drewN ?_ _ | refine blk_drew ?_ | refine blk_alloc ?_ _)); refine blk_put (cs := #[.int .i64 (wrap64 (bt a0 0)), .int .u64 0, .int .u64 0, .int .u64 0, .string (⟨#[]⟩ : ByteArray)]) ?_ 1 _ rfl; (with_reducible repeat (first | refine blk_drewN ?_ _ | refine blk_drew ?_ | refine blk_alloc ?_ _)); refine blk_put (cs := #[.int .i64 0, .int .u64 0, .int .u64 0, .int .u64 0, .string (⟨#[]⟩ : ByteArray)]) ?_ 0 _ rfl; (with_reducible repeat (first | refine blk_drewN ?_ _ | refine blk_drew ?_ | refine blk_alloc ?_ _)); exact BK201.out⟩
         have n3_ : Aside0 (Below w.heap.size w (((((w19.setCell ⟨gb201, 0, none⟩ (.int .i64 (wrap64 (bt a0 0)))).setCell ⟨gb201, 1, none⟩ (.int .u64 (rd t193 0))).setCell ⟨gb201, 2, none⟩ (.int .u64 (rd t193 1))).setCell ⟨gb201, 3, none⟩ (.int .u64 (rd t193 2))).setCell ⟨gb201, 4, none⟩ (.string t194))) := ⟨hx_ HB⟩
         (try clear HO197)
         (try clear BK192)
         (try clear BK201)
         (try clear HB)
         generalize (((((w19.setCell ⟨gb201, 0, none⟩ (.int .i64 (wrap64 (bt a0 0)))).setCell ⟨gb201, 1, none⟩ (.int .u64 (rd t193 0))).setCell ⟨gb201, 2, none⟩ (.int .u64 (rd t193 1))).setCell ⟨gb201, 3, none⟩ (.int .u64 (rd t193 2))).setCell ⟨gb201, 4, none⟩ (.string t194)) = w25 at n0_ n1_ n2_ n3_ ⊢
         have HO197 := n0_
         have BK192 := n1_
         have BK201 := n2_
         have HB := n3_
         clear n0_ n1_ n2_ n3_
         have n0_ := am_ (Kd.R_drew HO197.out)
         have n1_ := am_ (blk_drew BK192.out)
         have n2_ := am_ (blk_drew BK201.out)
         have n3_ := am_ (below_drew1 HB.out)
         clear HO197
         clear BK192
         clear BK201
         clear HB
         have HO197 := n0_
         have BK192 := n1_
         have BK201 := n2_
         have HB := n3_
         clear n0_ n1_ n2_ n3_
         refine start_ (n := 5) (S := fun w' => w'.cell? ⟨gb201, 0, none⟩ = some (.int .i64 (wrap64 (bt a0 0))) ∧ w'.cell? ⟨gb201, 1, none⟩ = some (.int .u64 (rd t193 0)) ∧ w'.cell? ⟨gb201, 2, none⟩ = some (.int .u64 (rd t193 1)) ∧ w'.cell? ⟨gb201, 3, none⟩ = some (.int .u64 (rd t193 2)) ∧ w'.cell? ⟨gb201, 4, none⟩ = some (.string t194)) (ds := []) #[false, false, false, false, false] (by kernel_rfl) rfl rfl ⟨(blk_cell BK201.out 0).trans rfl, (blk_cell BK201.out 1).trans rfl, (blk_cell BK201.out 2).trans rfl, (blk_cell BK201.out 3).trans rfl, (blk_cell BK201.out 4).trans rfl⟩ (fun hHeld => ?_)
         generalize w25.drew = w26 at HO197 BK192 BK201 HB hHeld ⊢
         refine take_ (i := 0) (N := some 40) (v := ?_) (a' := ?_) #[true, false, false, false, false] rfl rfl (by kernel_rfl) (fun _ _ _ h => h) (Or.inl ⟨by rfl, ?_⟩) hHeld ?_ ?_; rotate_left; (rintro w' ⟨s0, s1, s2, s3, s4⟩; go_simp; with_reducible rfl); rotate_left; (simp only [Act.put, List.setIfInBounds_toArray, List.set_cons_zero, List.set_cons_succ, i64_w, i32_w]; rfl)
         refine take_ (i := 1) (N := some 41) (v := ?_) (a' := ?_) #[true, true, false, false, false] rfl rfl (by kernel_rfl) (fun _ _ _ h => h) (Or.inl ⟨by rfl, ?_⟩) hHeld ?_ ?_; rotate_left; (rintro w' ⟨s0, s1, s2, s3, s4⟩; go_simp; with_reducible rfl); rotate_left; (simp only [Act.put, List.setIfInBounds_toArray, List.set_cons_zero, List.set_cons_succ, i64_w, i32_w]; rfl)
         refine one_ (i := 2) (N := some 42) #[true, true, true, false, false] rfl rfl (by kernel_rfl) (by decide) (fun K hK => ?_)
         refine goes_ Try.func45 (by kernel_rfl) rfl #[.agg #[.int .i64 (wrap64 (bt a0 0)), .int .u64 (rd t193 0), .int .u64 (rd t193 1), .int .u64 (rd t193 2), .string t194]] (by rfl) rfl rfl (by (try simp only [List.map_toArray, List.map_cons, List.map_nil]); first | done | rfl | (simp only [List.length_drop, List.length_take]; rfl)) ?_
         with_reducible refine (note_may.calls k (wrap64 (bt a0 0)) (rd t193 0) (rd t193 1) (rd t193 2) t194 t202 _ A14.out).mono ?_
         rintro e w27 ⟨rfl, hb⟩
         refine ⟨_, rfl, ?_⟩
         have n0_ := am_ (Kd.R_below (rx_ HO197) hb)
         have n1_ := am_ (bb_ BK192 hb)
         have n2_ := am_ (bb_ BK201 hb)
         have n3_ := am_ (below_step (hy_ HB) hb)
         clear HO197
         clear BK192
         clear BK201
         clear HB
         have HO197 := n0_
         have BK192 := n1_
         have BK201 := n2_
         have HB := n3_
         clear n0_ n1_ n2_ n3_
         (try clear hb)
         (try clear hb2)
         (try clear hk)
         (try clear hi)
         refine hK.out _ _ ⟨(blk_cell BK201.out 0).trans rfl, (blk_cell BK201.out 1).trans rfl, (blk_cell BK201.out 2).trans rfl, (blk_cell BK201.out 3).trans rfl, (blk_cell BK201.out 4).trans rfl⟩ (fun hHeld => ?_)
         clear hK K
         refine norm_ (a' := ?_) ?_ ?_
         rotate_left
         ·show Act.put _ (some 42) _ = _
          simp only [Act.put, List.setIfInBounds_toArray, List.set_cons_zero, List.set_cons_succ, i64_w, i32_w]
          rfl
         refine one_ (i := 3) (N := none) #[true, true, true, true, false] rfl rfl (by kernel_rfl) (by decide) (fun K hK => ?_)
         have hs28 : w27.cell? ⟨gb192, 0, none⟩ = some (.int .i64 0) := (blk_cell BK192.out 0).trans rfl
         have hfs28 := blk_frozen BK192.out 0
         have hns28_1 := NB201_192.out
         have hms28_1 := NB192_201.out
         have hs29 : w27.cell? ⟨gb192, 1, none⟩ = some (.int .u64 0) := (blk_cell BK192.out 1).trans rfl
         have hfs29 := blk_frozen BK192.out 1
         have hns29_1 := NB201_192.out
         have hms29_1 := NB192_201.out
         have hs30 : w27.cell? ⟨gb192, 2, none⟩ = some (.int .u64 0) := (blk_cell BK192.out 2).trans rfl
         have hfs30 := blk_frozen BK192.out 2
         have hns30_1 := NB201_192.out
         have hms30_1 := NB192_201.out
         have hs31 : w27.cell? ⟨gb192, 3, none⟩ = some (.int .u64 0) := (blk_cell BK192.out 3).trans rfl
         have hfs31 := blk_frozen BK192.out 3
         have hns31_1 := NB201_192.out
         have hms31_1 := NB192_201.out
         have hs32 : w27.cell? ⟨gb192, 4, none⟩ = some (.string (⟨#[]⟩ : ByteArray)) := (blk_cell BK192.out 4).trans rfl
         have hfs32 := blk_frozen BK192.out 4
         have hns32_1 := NB201_192.out
         have hms32_1 := NB192_201.out
         refine skip_ (w1 := ?_) (by rfl) rfl ?_ ?_
         rotate_left
         ·go_simp
          rfl
         refine hK.out _ _ ⟨((cell_far (p := ⟨gb192, _, none⟩) NB201_192.out _).trans (((cell_far (p := ⟨gb192, _, none⟩) NB201_192.out _).trans (((cell_far (p := ⟨gb192, _, none⟩) NB201_192.out _).trans (((cell_far (p := ⟨gb192, _, none⟩) NB201_192.out _).trans (((cell_far (p := ⟨gb192, _, none⟩) NB201_192.out _).trans (hHeld.1)))))))))), ((cell_far (p := ⟨gb192, _, none⟩) NB201_192.out _).trans (((cell_far (p := ⟨gb192, _, none⟩) NB201_192.out _).trans (((cell_far (p := ⟨gb192, _, none⟩) NB201_192.out _).trans (((cell_far (p := ⟨gb192, _, none⟩) NB201_192.out _).trans (((cell_far (p := ⟨gb192, _, none⟩) NB201_192.out _).trans (hHeld.2.1)))))))))), ((cell_far (p := ⟨gb192, _, none⟩) NB201_192.out _).trans (((cell_far (p := ⟨gb192, _, none⟩) NB201_192.out _).trans (((cell_far (p := ⟨gb192, _, none⟩) NB201_192.out _).trans (((cell_far (p := ⟨gb192, _, none⟩) NB201_192.out _).trans (((cell_far (p := ⟨gb192, _, none⟩) NB201_192.out _).trans (hHeld.2.2.1)))))))))), ((cell_far (p := ⟨gb192, _, none⟩) NB201_192.out _).trans (((cell_far (p := ⟨gb192, _, none⟩) NB201_192.out _).trans (((cell_far (p := ⟨gb192, _, none⟩) NB201_192.out _).trans (((cell_far (p := ⟨gb192, _, none⟩) NB201_192.out _).trans (((cell_far (p := ⟨gb192, _, none⟩) NB201_192.out _).trans (hHeld.2.2.2.1)))))))))), ((cell_far (p := ⟨gb192, _, none⟩) NB201_192.out _).trans (((cell_far (p := ⟨gb192, _, none⟩) NB201_192.out _).trans (((cell_far (p := ⟨gb192, _, none⟩) NB201_192.out _).trans (((cell_far (p := ⟨gb192, _, none⟩) NB201_192.out _).trans (((cell_far (p := ⟨gb192, _, none⟩) NB201_192.out _).trans (hHeld.2.2.2.2))))))))))⟩ (fun hHeld => ?_)
         clear hK K
         refine pure_ (i := 4) (N := some 3) (v := ?_) (a' := ?_) #[true, true, true, true, true] rfl rfl (by kernel_rfl) (fun _ _ _ h => h) (Or.inl ⟨by rfl, ?_⟩) ?_ ?_; rotate_left; (intro w'; go_simp; with_reducible rfl); rotate_left; (simp only [Act.put, List.setIfInBounds_toArray, List.set_cons_zero, List.set_cons_succ, i64_w, i32_w]; rfl)
         refine done_ (by kernel_rfl) ?_
         try go_wp2
         refine bodyPost_ret (results_ct rfl _ _ gb192 39 #[.int .i64 (wrap64 (bt a0 0)), .int .u64 (rd t193 0), .int .u64 (rd t193 1), .int .u64 (rd t193 2), .string t194] (0, 0) _ rfl (by (with_reducible repeat (first | refine blk_drewN ?_ _ | refine blk_drew ?_ | refine blk_alloc ?_ _)); refine blk_put (cs := #[.int .i64 (wrap64 (bt a0 0)), .int .u64 (rd t193 0), .int .u64 (rd t193 1), .int .u64 (rd t193 2), .string (⟨#[]⟩ : ByteArray)]) ?_ 4 _ rfl; (with_reducible repeat (first | refine blk_drewN ?_ _ | refine blk_drew ?_ | refine blk_alloc ?_ _)); refine blk_put (cs := #[.int .i64 (wrap64 (bt a0 0)), .int .u64 (rd t193 0), .int .u64 (rd t193 1), .int .u64 0, .string (⟨#[]⟩ : ByteArray)]) ?_ 3 _ rfl; (with_reducible repeat (first | refine blk_drewN ?_ _ | refine blk_drew ?_ | refine blk_alloc ?_ _)); refine blk_put (cs := #[.int .i64 (wrap64 (bt a0 0)), .int .u64 (rd t193 0), .int .u64 0, .int .u64 0, .string (⟨#[]⟩ : ByteArray)]) ?_ 2 _ rfl; (with_reducible repeat (first | refine blk_drewN ?_ _ | refine blk_drew ?_ | refine blk_alloc ?_ _)); refine blk_put (cs := #[.int .i64 (wrap64 (bt a0 0)), .int .u64 0, .int .u64 0, .int .u64 0, .string (⟨#[]⟩ : ByteArray)]) ?_ 1 _ rfl; (with_reducible repeat (first | refine blk_drewN ?_ _ | refine blk_drew ?_ | refine blk_alloc ?_ _)); refine blk_put (cs := #[.int .i64 0, .int .u64 0, .int .u64 0, .int .u64 0, .string (⟨#[]⟩ : ByteArray)]) ?_ 0 _ rfl; (with_reducible repeat (first | refine blk_drewN ?_ _ | refine blk_drew ?_ | refine blk_alloc ?_ _)); exact BK192.out) Try.underlying39 rfl (by kernel_rfl)) rfl ?_
         exact ⟨by first | rfl | (simp [errW_none, errW_some] <;> rfl) | (simp [*, errW_none, errW_some] <;> rfl), hx_ HB⟩
        ·rw [if_neg c13] at H
         exact absurd H (by simp)
       ·rw [if_neg c12] at H
        exact absurd H (by simp)
      ·rw [if_neg c11] at H
       exact absurd H (by simp)
     ·rw [if_neg c9] at H
      exact absurd H (by simp)
    ·rw [if_neg c8] at H
     have c8b0 : ((t193.length : Int) == 3) = false := beq_eq_false_iff_ne.mpr c8
     have c8b1 : ((t193.length : Int) != 3) = true := bne_iff_ne.mpr c8
     simp only [Option.some.injEq, Prod.mk.injEq] at H
     obtain ⟨rfl, rfl, rfl, rfl, rfl, rfl⟩ := H
     go_enter Try.func52, Try.ntmps52
     go_wp2_with (first | ((with_reducible refine gate_dst (N := 2) rfl ?_); (try (refine gate_guard (by rfl) ?_; dsimp only)); refine box_event ?hg (N := 2) ?hd (cs := #[.int .i64 0, .int .u64 0, .int .u64 0, .int .u64 0, .string (⟨#[]⟩ : ByteArray)]) (t := 39) ?hr ?_; (case hd => rfl); (case hg => rfl); (case hr => first | (go_simp; done) | (go_simp; rfl)); intro gb192 hg w33 hbox hb; have n0_ := am_ (below_step (hy_ HB) hb); have n1_ := am_ (hbox); have n2_ := am_ ((by rw [hg]; exact (below_size (hx_ HB)) : w.heap.size ≤ gb192)); have n3_ := am_ ((by rw [hg]; exact (below_size (hx_ HB)) : w.heap.size ≤ gb192)); clear HB; have HB := n0_; have BK192 := n1_; have GW192 := n2_; have GE192 := n3_; clear n0_ n1_ n2_ n3_; clear hb hbox hg) | ((with_reducible refine gate_callee (f := 83) rfl ?_); refine goesL_ (some 14) rfl rfl Try.func83 (by kernel_rfl) rfl #[.string (a0.extract 1 a0.size), .int .i64 3] rfl (by (try simp only [List.map_toArray, List.map_cons, List.map_nil]); first | done | rfl | (simp only [List.length_drop, List.length_take]; rfl)) ?_; (with_reducible refine (pack_TakeNums.calls k (a0.extract 1 a0.size) 3 t193 t194 t195 _ A6.out).mono ?_); rintro e w34 ⟨v196, rfl, ho0, hb⟩; refine ⟨_, rfl, ?_⟩; have n0_ := am_ (Kd.R_lower ho0 (below_size (hx_ HB))); have n1_ := am_ (bb_ BK192 hb); have n2_ := am_ (below_step (hy_ HB) hb); clear BK192 HB; have HO197 := n0_; have BK192 := n1_; have HB := n2_; clear n0_ n1_ n2_; (try clear hb); (try clear hb2); (try clear hk); (try clear hi); (try clear ho0); obtain ⟨Ao35, co35, eo35⟩ := Kd.R_slice HO197.out; subst eo35; have hcz36_0 : w34.cell? ⟨gb192, 0, none⟩ = some (.int .i64 0) := (blk_cell BK192.out 0).trans rfl; have hcz36_1 : w34.cell? ⟨gb192, 1, none⟩ = some (.int .u64 0) := (blk_cell BK192.out 1).trans rfl; have hcz36_2 : w34.cell? ⟨gb192, 2, none⟩ = some (.int .u64 0) := (blk_cell BK192.out 2).trans rfl; have hcz36_3 : w34.cell? ⟨gb192, 3, none⟩ = some (.int .u64 0) := (blk_cell BK192.out 3).trans rfl; have hcz36_4 : w34.cell? ⟨gb192, 4, none⟩ = some (.string (⟨#[]⟩ : ByteArray)) := (blk_cell BK192.out 4).trans rfl; have hfz36_0 := blk_frozen BK192.out 0; have hfz36_1 := blk_frozen BK192.out 1; have hfz36_2 := blk_frozen BK192.out 2; have hfz36_3 := blk_frozen BK192.out 3; have hfz36_4 := blk_frozen BK192.out 4))
     refine bodyPost_ret (results_ct rfl _ _ gb192 39 #[.int .i64 0, .int .u64 0, .int .u64 0, .int .u64 0, .string (⟨#[]⟩ : ByteArray)] (0, 0) _ rfl (by (with_reducible repeat (first | refine blk_drewN ?_ _ | refine blk_drew ?_ | refine blk_alloc ?_ _)); refine blk_put (cs := #[.int .i64 0, .int .u64 0, .int .u64 0, .int .u64 0, .string (⟨#[]⟩ : ByteArray)]) ?_ 4 _ rfl; (with_reducible repeat (first | refine blk_drewN ?_ _ | refine blk_drew ?_ | refine blk_alloc ?_ _)); refine blk_put (cs := #[.int .i64 0, .int .u64 0, .int .u64 0, .int .u64 0, .string (⟨#[]⟩ : ByteArray)]) ?_ 3 _ rfl; (with_reducible repeat (first | refine blk_drewN ?_ _ | refine blk_drew ?_ | refine blk_alloc ?_ _)); refine blk_put (cs := #[.int .i64 0, .int .u64 0, .int .u64 0, .int .u64 0, .string (⟨#[]⟩ : ByteArray)]) ?_ 2 _ rfl; (with_reducible repeat (first | refine blk_drewN ?_ _ | refine blk_drew ?_ | refine blk_alloc ?_ _)); refine blk_put (cs := #[.int .i64 0, .int .u64 0, .int .u64 0, .int .u64 0, .string (⟨#[]⟩ : ByteArray)]) ?_ 1 _ rfl; (with_reducible repeat (first | refine blk_drewN ?_ _ | refine blk_drew ?_ | refine blk_alloc ?_ _)); refine blk_put (cs := #[.int .i64 0, .int .u64 0, .int .u64 0, .int .u64 0, .string (⟨#[]⟩ : ByteArray)]) ?_ 0 _ rfl; (with_reducible repeat (first | refine blk_drewN ?_ _ | refine blk_drew ?_ | refine blk_alloc ?_ _)); exact BK192.out) Try.underlying39 rfl (by kernel_rfl)) rfl ?_
     exact ⟨by first | rfl | (simp [errW_none, errW_some] <;> rfl) | (simp [*, errW_none, errW_some] <;> rfl), hx_ HB⟩
   ·rw [if_neg c7] at H
    have c7b0 : (t195 == 0) = false := beq_eq_false_iff_ne.mpr c7
    have c7b1 : (t195 != 0) = true := bne_iff_ne.mpr c7
    simp only [Option.some.injEq, Prod.mk.injEq] at H
    obtain ⟨rfl, rfl, rfl, rfl, rfl, rfl⟩ := H
    go_enter Try.func52, Try.ntmps52
    go_wp2_with (first | ((with_reducible refine gate_dst (N := 2) rfl ?_); (try (refine gate_guard (by rfl) ?_; dsimp only)); refine box_event ?hg (N := 2) ?hd (cs := #[.int .i64 0, .int .u64 0, .int .u64 0, .int .u64 0, .string (⟨#[]⟩ : ByteArray)]) (t := 39) ?hr ?_; (case hd => rfl); (case hg => rfl); (case hr => first | (go_simp; done) | (go_simp; rfl)); intro gb192 hg w37 hbox hb; have n0_ := am_ (below_step (hy_ HB) hb); have n1_ := am_ (hbox); have n2_ := am_ ((by rw [hg]; exact (below_size (hx_ HB)) : w.heap.size ≤ gb192)); have n3_ := am_ ((by rw [hg]; exact (below_size (hx_ HB)) : w.heap.size ≤ gb192)); clear HB; have HB := n0_; have BK192 := n1_; have GW192 := n2_; have GE192 := n3_; clear n0_ n1_ n2_ n3_; clear hb hbox hg) | ((with_reducible refine gate_callee (f := 83) rfl ?_); refine goesL_ (some 14) rfl rfl Try.func83 (by kernel_rfl) rfl #[.string (a0.extract 1 a0.size), .int .i64 3] rfl (by (try simp only [List.map_toArray, List.map_cons, List.map_nil]); first | done | rfl | (simp only [List.length_drop, List.length_take]; rfl)) ?_; (with_reducible refine (pack_TakeNums.calls k (a0.extract 1 a0.size) 3 t193 t194 t195 _ A6.out).mono ?_); rintro e w38 ⟨v196, rfl, ho0, hb⟩; refine ⟨_, rfl, ?_⟩; have n0_ := am_ (Kd.R_lower ho0 (below_size (hx_ HB))); have n1_ := am_ (bb_ BK192 hb); have n2_ := am_ (below_step (hy_ HB) hb); clear BK192 HB; have HO197 := n0_; have BK192 := n1_; have HB := n2_; clear n0_ n1_ n2_; (try clear hb); (try clear hb2); (try clear hk); (try clear hi); (try clear ho0); have hcz39_0 : w38.cell? ⟨gb192, 0, none⟩ = some (.int .i64 0) := (blk_cell BK192.out 0).trans rfl; have hcz39_1 : w38.cell? ⟨gb192, 1, none⟩ = some (.int .u64 0) := (blk_cell BK192.out 1).trans rfl; have hcz39_2 : w38.cell? ⟨gb192, 2, none⟩ = some (.int .u64 0) := (blk_cell BK192.out 2).trans rfl; have hcz39_3 : w38.cell? ⟨gb192, 3, none⟩ = some (.int .u64 0) := (blk_cell BK192.out 3).trans rfl; have hcz39_4 : w38.cell? ⟨gb192, 4, none⟩ = some (.string (⟨#[]⟩ : ByteArray)) := (blk_cell BK192.out 4).trans rfl; have hfz39_0 := blk_frozen BK192.out 0; have hfz39_1 := blk_frozen BK192.out 1; have hfz39_2 := blk_frozen BK192.out 2; have hfz39_3 := blk_frozen BK192.out 3; have hfz39_4 := blk_frozen BK192.out 4))
    refine bodyPost_ret (results_ct rfl _ _ gb192 39 #[.int .i64 0, .int .u64 0, .int .u64 0, .int .u64 0, .string (⟨#[]⟩ : ByteArray)] (0, 0) _ rfl (by (with_reducible repeat (first | refine blk_drewN ?_ _ | refine blk_drew ?_ | refine blk_alloc ?_ _)); refine blk_put (cs := #[.int .i64 0, .int .u64 0, .int .u64 0, .int .u64 0, .string (⟨#[]⟩ : ByteArray)]) ?_ 4 _ rfl; (with_reducible repeat (first | refine blk_drewN ?_ _ | refine blk_drew ?_ | refine blk_alloc ?_ _)); refine blk_put (cs := #[.int .i64 0, .int .u64 0, .int .u64 0, .int .u64 0, .string (⟨#[]⟩ : ByteArray)]) ?_ 3 _ rfl; (with_reducible repeat (first | refine blk_drewN ?_ _ | refine blk_drew ?_ | refine blk_alloc ?_ _)); refine blk_put (cs := #[.int .i64 0, .int .u64 0, .int .u64 0, .int .u64 0, .string (⟨#[]⟩ : ByteArray)]) ?_ 2 _ rfl; (with_reducible repeat (first | refine blk_drewN ?_ _ | refine blk_drew ?_ | refine blk_alloc ?_ _)); refine blk_put (cs := #[.int .i64 0, .int .u64 0, .int .u64 0, .int .u64 0, .string (⟨#[]⟩ : ByteArray)]) ?_ 1 _ rfl; (with_reducible repeat (first | refine blk_drewN ?_ _ | refine blk_drew ?_ | refine blk_alloc ?_ _)); refine blk_put (cs := #[.int .i64 0, .int .u64 0, .int .u64 0, .int .u64 0, .string (⟨#[]⟩ : ByteArray)]) ?_ 0 _ rfl; (with_reducible repeat (first | refine blk_drewN ?_ _ | refine blk_drew ?_ | refine blk_alloc ?_ _)); exact BK192.out) Try.underlying39 rfl (by kernel_rfl)) rfl ?_
    exact ⟨by first | rfl | (simp [errW_none, errW_some] <;> rfl) | (simp [*, errW_none, errW_some] <;> rfl), hx_ HB⟩
  ·rw [if_neg c5] at H
   exact absurd H (by simp)
end Go.Proofs.Ytfjhlcbpogihmaa.Pr
