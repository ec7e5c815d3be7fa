/- What the program's functions compute, and that they compute it: printed out of the translation by a program of this session's (px.py, over the kit's printer). Conditions: none. -/
import Derived.Test.YtfjhlcbpogihmaaKNoteLasts2
import Derived.Test.YtfjhlcbpogihmaaGNoteLastsPr8
namespace Go.Proofs.Ytfjhlcbpogihmaa.Pr
open Go.RowKit Go.Proofs.YtfjhlcbpogihmaaW.PrintWords Go.Proofs.YtfjhlcbpogihmaaW.PrintLast Go.Proofs.YtfjhlcbpogihmaaW.PrintMore
attribute [local go_sem] max2_int min2_int max_two min_two max_three min_three max_four min_four
set_option linter.unusedVariables false
set_option linter.unusedSimpArgs false
/-! ### ferruleref04_Step: function 44 -/
mutual
def ferruleref04_Step.l0 : Nat → List (S75) → Int → Int → Int → Int → Int → ByteArray → List (S75) → Int → Int → Int → Int → ByteArray → Int → Int → ByteArray → List (S75) → Option (Int × Int × Int × Int × ByteArray × (List (S75)))
  | 0, _, _, _, _, _, _, _, _, _, _, _, _, _, _, _, _, _ => none
  | k + 1, x6, x7, x126000, x126001, x126002, x126003, x126004, x126005, x127000, x127001, x127002, x127003, x127004, x129000, x129001, x129002, x129003 => if x7 < (x129003.length : Int) then (if (IntKind.u64.wrap ((IntKind.u64.wrap (x129000 + (IntKind.u64.wrap (x7)))) + 1)) < x127001 then (if 0 ≤ x7 then ((some (([(⟨(rd_T75 x129003 x7).f0, (rd_T75 x129003 x7).f1⟩ : S75)] : List (S75)) : List (S75))).bind fun y143 => (if x6.length + y143.length < 5864062014805 then (ferruleref04_Step.l0 k (x6 ++ y143) (wrap64 (x7 + 1)) x126000 x126001 x126002 x126003 x126004 x126005 x127000 x127001 x127002 x127003 x127004 x129000 x129001 x129002 x129003) else (none))) else (none)) else (ferruleref04_Step.l0 k x6 (wrap64 (x7 + 1)) x126000 x126001 x126002 x126003 x126004 x126005 x127000 x127001 x127002 x127003 x127004 x129000 x129001 x129002 x129003)) else (some (x126000, x126001, x126002, x126003, x126004, x6))
def ferruleref04_Step.j1 : Nat → Bool → Int → Int → Int → Int → ByteArray → List (S75) → Int → Int → Int → Int → ByteArray → Int → Int → ByteArray → List (S75) → Option (Int × Int × Int × Int × ByteArray × (List (S75)))
  | 0, _, _, _, _, _, _, _, _, _, _, _, _, _, _, _, _ => none
  | k + 1, x96, x126000, x126001, x126002, x126003, x126004, x126005, x127000, x127001, x127002, x127003, x127004, x129000, x129001, x129002, x129003 => if x96 = true then (some (x126000, x126001, x126002, x126003, x126004, x126005)) else (ferruleref04_Step.l1 k ([] : List (S75)) false 0 x126000 x126001 x126002 x126003 x126004 x126005 x127000 x127001 x127002 x127003 x127004 x129000 x129001 x129002 x129003)
def ferruleref04_Step.l1 : Nat → List (S75) → Bool → Int → Int → Int → Int → Int → ByteArray → List (S75) → Int → Int → Int → Int → ByteArray → Int → Int → ByteArray → List (S75) → Option (Int × Int × Int × Int × ByteArray × (List (S75)))
  | 0, _, _, _, _, _, _, _, _, _, _, _, _, _, _, _, _, _, _ => none
  | k + 1, x8, x9, x10, x126000, x126001, x126002, x126003, x126004, x126005, x127000, x127001, x127002, x127003, x127004, x129000, x129001, x129002, x129003 => if x10 < (x129003.length : Int) then (if (IntKind.u64.wrap ((IntKind.u64.wrap (x129000 + (IntKind.u64.wrap (x10)))) + 1)) = x127001 then (if 0 ≤ x10 then (ferruleref04_Step.j3 k x8 x9 x10 (IntKind.u64.wrap ((IntKind.u64.wrap (x129000 + (IntKind.u64.wrap (x10)))) + 1)) (((rd_T75 x129003 x10).f0) == x127002) x126000 x126001 x126002 x126003 x126004 x126005 x127000 x127001 x127002 x127003 x127004 x129000 x129001 x129002 x129003) else (none)) else (ferruleref04_Step.j3 k x8 x9 x10 (IntKind.u64.wrap ((IntKind.u64.wrap (x129000 + (IntKind.u64.wrap (x10)))) + 1)) false x126000 x126001 x126002 x126003 x126004 x126005 x127000 x127001 x127002 x127003 x127004 x129000 x129001 x129002 x129003)) else (some (x126000, x126001, x127001, x127002, x127004, x8))
def ferruleref04_Step.j3 : Nat → List (S75) → Bool → Int → Int → Bool → Int → Int → Int → Int → ByteArray → List (S75) → Int → Int → Int → Int → ByteArray → Int → Int → ByteArray → List (S75) → Option (Int × Int × Int × Int × ByteArray × (List (S75)))
  | 0, _, _, _, _, _, _, _, _, _, _, _, _, _, _, _, _, _, _, _, _ => none
  | k + 1, x8, x9, x10, x11, x125, x126000, x126001, x126002, x126003, x126004, x126005, x127000, x127001, x127002, x127003, x127004, x129000, x129001, x129002, x129003 => if x125 = true then (ferruleref04_Step.l1 k x8 true (wrap64 (x10 + 1)) x126000 x126001 x126002 x126003 x126004 x126005 x127000 x127001 x127002 x127003 x127004 x129000 x129001 x129002 x129003) else (if x11 > x127001 then (if x9 = true then (if 0 ≤ x10 then (if x10 < (x129003.length : Int) then ((some (([(⟨(rd_T75 x129003 x10).f0, (rd_T75 x129003 x10).f1⟩ : S75)] : List (S75)) : List (S75))).bind fun y151 => (if x8.length + y151.length < 5864062014805 then (ferruleref04_Step.l1 k (x8 ++ y151) x9 (wrap64 (x10 + 1)) x126000 x126001 x126002 x126003 x126004 x126005 x127000 x127001 x127002 x127003 x127004 x129000 x129001 x129002 x129003) else (none))) else (none)) else (none)) else (ferruleref04_Step.l1 k x8 x9 (wrap64 (x10 + 1)) x126000 x126001 x126002 x126003 x126004 x126005 x127000 x127001 x127002 x127003 x127004 x129000 x129001 x129002 x129003)) else (ferruleref04_Step.l1 k x8 x9 (wrap64 (x10 + 1)) x126000 x126001 x126002 x126003 x126004 x126005 x127000 x127001 x127002 x127003 x127004 x129000 x129001 x129002 x129003))
end
def ferruleref04_Step.f (k : Nat) (a0_0 : Int) (a0_1 : Int) (a0_2 : Int) (a0_3 : Int) (a0_4 : ByteArray) (l0_5 : List (S75)) (a1_0 : Int) (a1_1 : Int) (a1_2 : Int) (a1_3 : Int) (a1_4 : ByteArray) : Option (Int × Int × Int × Int × ByteArray × (List (S75))) := if a1_0 = 1 then (some (a1_2, a1_3, a0_2, a0_3, a0_4, l0_5)) else (if a1_0 = 2 then ((ferruleref04_Last.f a0_2 a0_3 a0_4 l0_5).bind fun t129 => (if a1_1 = (IntKind.u64.wrap (t129 + 1)) then (if (l0_5.length : Int) < 1024 then (if a1_1 ≤ 1099511627776 then ((some (([] : List (S75)) : List (S75))).bind fun y130 => (if y130.length + l0_5.length < 5864062014805 then ((some (y130 ++ l0_5 : List (S75))).bind fun y133 => ((some (([(⟨a1_2, a1_4⟩ : S75)] : List (S75)) : List (S75))).bind fun y136 => (if y133.length + y136.length < 5864062014805 then (some (a0_0, a0_1, a0_2, a0_3, a0_4, (y133 ++ y136))) else (none)))) else (none))) else (some (a0_0, a0_1, a0_2, a0_3, a0_4, l0_5))) else (some (a0_0, a0_1, a0_2, a0_3, a0_4, l0_5))) else (some (a0_0, a0_1, a0_2, a0_3, a0_4, l0_5)))) else (if a1_0 = 3 then (ferruleref04_Step.l0 k ([] : List (S75)) 0 a0_0 a0_1 a0_2 a0_3 a0_4 l0_5 a1_0 a1_1 a1_2 a1_3 a1_4 a0_2 a0_3 a0_4 l0_5) else (if a1_0 = 4 then (if a1_1 ≤ a0_2 then (ferruleref04_Step.j1 k true a0_0 a0_1 a0_2 a0_3 a0_4 l0_5 a1_0 a1_1 a1_2 a1_3 a1_4 a0_2 a0_3 a0_4 l0_5) else (ferruleref04_Step.j1 k (decide (a1_1 > 1099511627776)) a0_0 a0_1 a0_2 a0_3 a0_4 l0_5 a1_0 a1_1 a1_2 a1_3 a1_4 a0_2 a0_3 a0_4 l0_5)) else (some (a0_0, a0_1, a0_2, a0_3, a0_4, l0_5)))))
def ferruleref04_Step.T7 : Bool × List (List Nat × List Nat) := (true, [([], []), ([0], [0]), ([], []), ([2], [2]), ([3], [3]), ([1, 4], [1, 4]), ([5, 3], [5]), ([6], [6]), ([7, 6], [6, 7]), ([8, 6], [6, 8]), ([9, 6], [6, 9]), ([6, 10], [6, 10]), ([11, 6], [11]), ([12], [12]), ([13, 12], [12, 13]), ([14, 12], [12, 14]), ([12, 15], [12, 15])])
def ferruleref04_Step.B7 : List Nat := [0, 1, 0, 4, 12, 31, 63, 127, 255, 511, 1023, 2047, 4095, 8191, 16383, 32767, 65535]
theorem ferruleref04_Step.tab7 : rtab .any (opsOf Try.f44 7) = ferruleref04_Step.T7 := by kernel_rfl
theorem ferruleref04_Step.bits7 : waitsOk ferruleref04_Step.T7.2 ferruleref04_Step.B7 = true := by kernel_rfl
def ferruleref04_Step.T8 : Bool × List (List Nat × List Nat) := (true, [([], []), ([], []), ([1], [1]), ([0, 2], [0, 2]), ([], []), ([4], [4]), ([], []), ([6], [6]), ([5, 7], [5, 7]), ([8], [8]), ([3, 9, 3], [3, 9]), ([0, 1, 2, 3, 4, 5, 6, 7, 8, 9, 10], []), ([11, 0, 1, 2, 3, 4, 5, 6, 7, 8, 9, 10], [11]), ([12, 10, 10, 0, 1, 2, 3, 4, 5, 6, 7, 8, 9, 10], [10, 12])])
def ferruleref04_Step.B8 : List Nat := [0, 0, 2, 7, 0, 16, 0, 64, 240, 496, 1023, 2047, 4095, 8191]
theorem ferruleref04_Step.tab8 : rtab .any (opsOf Try.f44 8) = ferruleref04_Step.T8 := by kernel_rfl
theorem ferruleref04_Step.bits8 : waitsOk ferruleref04_Step.T8.2 ferruleref04_Step.B8 = true := by kernel_rfl
def ferruleref04_Step.T26 : Bool × List (List Nat × List Nat) := (true, [([], []), ([], []), ([1], [1]), ([0, 2], [0, 2]), ([3], [3]), ([4], [4]), ([5, 4], [4, 5]), ([4], [4]), ([6, 7, 4], [4, 6, 7]), ([8, 4], [4, 8]), ([9, 4], [4, 9]), ([4], [4]), ([11, 4], [4, 11]), ([10, 12, 4], [4, 10, 12]), ([4, 13], [4, 13])])
def ferruleref04_Step.B26 : List Nat := [0, 0, 2, 7, 15, 31, 63, 31, 255, 511, 1023, 31, 2079, 8191, 16383]
theorem ferruleref04_Step.tab26 : rtab .any (opsOf Try.f44 26) = ferruleref04_Step.T26 := by kernel_rfl
theorem ferruleref04_Step.bits26 : waitsOk ferruleref04_Step.T26.2 ferruleref04_Step.B26 = true := by kernel_rfl
namespace ShRStepA
theorem am_ {p : Prop} (h : p) : Aside0 p := ⟨h⟩
theorem bx_ {Q P : Prop} (b : Aside0 Q) (h : Q → P := by intro hq_; (with_reducible repeat (first | refine blk_drewN ?_ _ | refine blk_drew ?_ | refine blk_alloc ?_ _)); exact hq_) : P := h b.out
theorem hx_ {Q P : Prop} (b : Aside0 Q) (h : Q → P := by intro hq_; repeat (first | (with_reducible first | exact hq_ | apply below_alloc | apply pw_below_drewN | apply below_drew1 | refine below_set ?_ (Aside0.out (by assumption))) | exact hq_)) : P := h b.out
theorem rx_ {Q P : Prop} (b : Aside0 Q) (h : Q → P := by intro hq_; (with_reducible repeat (first | apply Kd.R_alloc | apply Kd.R_drewN | apply Kd.R_drew)); exact hq_) : P := h b.out
theorem kx_ {Q P : Prop} (b : Aside0 Q) (h : Q → P := by intro hq_; repeat (first | (with_reducible first | exact hq_ | apply Kept.alloc | apply Kept.drewN | apply Kept.drew | refine Kept.setCell ?_ (.inr (Aside0.out (by assumption))) _) | exact hq_)) : P := h b.out
theorem hy_ {Q P : Prop} (b : Aside0 Q) (h : Q → P := by intro hq_; repeat (first | (with_reducible first | exact hq_ | apply below_alloc | apply pw_below_drewN | apply below_drew1 | refine below_set ?_ (Aside0.out (by assumption))) | exact hq_ | exact Below.refl _ _)) : P := h b.out
theorem bb_ {w w1 w2 : World} {g : Nat} {o : Obj} (b : Aside0 (w.heap[g]? = some o)) (hb : Below w1.heap.size w1 w2) (h : w.heap[g]? = some o → w1.heap[g]? = some o := by intro hq_; (with_reducible repeat (first | refine blk_drewN ?_ _ | refine blk_drew ?_ | refine blk_alloc ?_ _)); exact hq_) : w2.heap[g]? = some o := blk_below (h b.out) hb
theorem bl_ {w w1 : World} {g : Nat} {o : Obj} (b : Aside0 (w.heap[g]? = some o)) (h : w.heap[g]? = some o → w1.heap[g]? = some o := by intro hq_; (with_reducible repeat (first | refine blk_drewN ?_ _ | refine blk_drew ?_ | refine blk_alloc ?_ _)); exact hq_) : g < w1.heap.size := blk_lt (h b.out)
end ShRStepA
open ShRStepA
set_option maxHeartbeats 8000000 in
set_option maxRecDepth 100000 in
theorem ferruleref04_Step.calls_a (k : Nat) (a0_0 : Int) (a0_1 : Int) (a0_2 : Int) (a0_3 : Int) (a0_4 : ByteArray) (P0_5_ : Nat → Prop) (u9000_ : Value) (l0_5 : List (S75)) (a1_0 : Int) (a1_1 : Int) (a1_2 : Int) (a1_3 : Int) (a1_4 : ByteArray) (r1 : Int) (r2 : Int) (r3 : Int) (r4 : Int) (r5 : ByteArray) (r6 : List (S75)) (w0 w : World) (hB : Below w0.heap.size w0 w) (ho0_5 : Kd.R k75 75 w w0.heap.size P0_5_ u9000_ l0_5) (hk2 : ¬ a1_0 = 2) (hk4 : ¬ a1_0 = 4) (h : ferruleref04_Step.f k a0_0 a0_1 a0_2 a0_3 a0_4 l0_5 a1_0 a1_1 a1_2 a1_3 a1_4 = some (r1, r2, r3, r4, r5, r6)) :
  Calls Try.prog 44 #[.agg #[.int .u64 a0_0, .int .u64 a0_1, .int .u64 a0_2, .int .u64 a0_3, .string a0_4, u9000_], .agg #[.int .i64 a1_0, .int .u64 a1_1, .int .u64 a1_2, .int .u64 a1_3, .string a1_4]] w fun e w' => ∃ v5_ : Value, e = .returned (.agg #[.int .u64 r1, .int .u64 r2, .int .u64 r3, .int .u64 r4, .string r5, v5_]) ∧ Kd.R k75 75 w' w0.heap.size (fun k_ => (P0_5_ k_ ∨ w.heap.size ≤ k_)) v5_ r6 ∧ Below w0.heap.size w0 w' ∧ Kept w w' (fun k_ => P0_5_ k_) := by
 have hu30 := Try.underlying30
 have hu39 := Try.underlying39
 have hu28 := Try.underlying28
 have hu75 := Try.underlying75
 have HO0_5 := am_ (show Kd.R k75 75 w w0.heap.size (fun k_ => (P0_5_ k_ ∨ w.heap.size ≤ k_)) u9000_ l0_5 from Kd.R_mono ho0_5 (fun k_ hk => (.inl hk)))
 have HK := am_ (Kept.refl w (fun k_ => P0_5_ k_))
 have HW0 := am_ hB.size
 have HB := am_ hB
 clear hB
 have H : (if a1_0 = 1 then (some (a1_2, a1_3, a0_2, a0_3, a0_4, l0_5)) else (if a1_0 = 2 then ((ferruleref04_Last.f a0_2 a0_3 a0_4 l0_5).bind fun t129 => (if a1_1 = (IntKind.u64.wrap (t129 + 1)) then (if (l0_5.length : Int) < 1024 then (if a1_1 ≤ 1099511627776 then ((some (([] : List (S75)) : List (S75))).bind fun y130 => (if y130.length + l0_5.length < 5864062014805 then ((some (y130 ++ l0_5 : List (S75))).bind fun y133 => ((some (([(⟨a1_2, a1_4⟩ : S75)] : List (S75)) : List (S75))).bind fun y136 => (if y133.length + y136.length < 5864062014805 then (some (a0_0, a0_1, a0_2, a0_3, a0_4, (y133 ++ y136))) else (none)))) else (none))) else (some (a0_0, a0_1, a0_2, a0_3, a0_4, l0_5))) else (some (a0_0, a0_1, a0_2, a0_3, a0_4, l0_5))) else (some (a0_0, a0_1, a0_2, a0_3, a0_4, l0_5)))) else (if a1_0 = 3 then (ferruleref04_Step.l0 k ([] : List (S75)) 0 a0_0 a0_1 a0_2 a0_3 a0_4 l0_5 a1_0 a1_1 a1_2 a1_3 a1_4 a0_2 a0_3 a0_4 l0_5) else (if a1_0 = 4 then (if a1_1 ≤ a0_2 then (ferruleref04_Step.j1 k true a0_0 a0_1 a0_2 a0_3 a0_4 l0_5 a1_0 a1_1 a1_2 a1_3 a1_4 a0_2 a0_3 a0_4 l0_5) else (ferruleref04_Step.j1 k (decide (a1_1 > 1099511627776)) a0_0 a0_1 a0_2 a0_3 a0_4 l0_5 a1_0 a1_1 a1_2 a1_3 a1_4 a0_2 a0_3 a0_4 l0_5)) else (some (a0_0, a0_1, a0_2, a0_3, a0_4, l0_5)))))) = some (r1, r2, r3, r4, r5, r6) := h
 clear h
 by_cases c3 : a1_0 = 1
 ·rw [if_pos c3] at H
  have c3b0 : (a1_0 == 1) = true := beq_iff_eq.mpr c3
  have c3b1 : (a1_0 != 1) = false := bne_eq_false_iff_eq.mpr c3
  clear c3
  simp only [Option.some.injEq, Prod.mk.injEq] at H
  obtain ⟨rfl, rfl, rfl, rfl, rfl, rfl⟩ := H
  obtain ⟨Ao4, co4, eo4⟩ := Kd.R_slice HO0_5.out
  subst eo4
  go_enter Try.func44, Try.ntmps44
  go_wp2_with (first | ((with_reducible refine gate_dst (N := 2) rfl ?_); (try (refine gate_guard (by rfl) ?_; dsimp only)); refine box_event ?hg (N := 2) ?hd (cs := #[.int .u64 a0_0, .int .u64 a0_1, .int .u64 a0_2, .int .u64 a0_3, .string a0_4, .slice Ao4 l0_5.length co4]) (t := 30) ?hr ?_; (case hd => rfl); (case hg => rfl); (case hr => first | (go_simp; done) | (go_simp; rfl)); intro gb125 hg w5 hbox hb; have n0_ := am_ (Kd.R_below (rx_ HO0_5) hb); have n1_ := am_ (Kept.below (S := (fun k_ => P0_5_ k_)) (kx_ HK) hb); have n2_ := am_ (below_step (hy_ HB) hb); have n3_ := am_ (hbox); have n4_ := am_ ((by rw [hg]; exact (by first | exact HK.out.1 | exact (show Kept w _ (fun k_ => P0_5_ k_) from kx_ HK).1) : w.heap.size ≤ gb125)); have n5_ := am_ ((by rw [hg]; exact (below_size (hx_ HB)) : w0.heap.size ≤ gb125)); clear HO0_5 HK HB; have HO0_5 := n0_; have HK := n1_; have HB := n2_; have BK125 := n3_; have GW125 := n4_; have GE125 := n5_; clear n0_ n1_ n2_ n3_ n4_ n5_; clear hb hbox hg) | ((with_reducible refine gate_dst (N := 3) rfl ?_); (try (refine gate_guard (by rfl) ?_; dsimp only)); refine box_event ?hg (N := 3) ?hd (cs := #[.int .i64 a1_0, .int .u64 a1_1, .int .u64 a1_2, .int .u64 a1_3, .string a1_4]) (t := 39) ?hr ?_; (case hd => rfl); (case hg => rfl); (case hr => first | (go_simp; done) | (go_simp; rfl)); intro gb126 hg w6 hbox hb; have n0_ := am_ (Kd.R_below (rx_ HO0_5) hb); have n1_ := am_ (bb_ BK125 hb); have n2_ := am_ (Kept.below (S := (fun k_ => P0_5_ k_)) (kx_ HK) hb); have n3_ := am_ (below_step (hy_ HB) hb); have n4_ := am_ (hbox); have n5_ := am_ ((by rw [hg]; exact (by first | exact HK.out.1 | exact (show Kept w _ (fun k_ => P0_5_ k_) from kx_ HK).1) : w.heap.size ≤ gb126)); have n6_ := am_ ((by rw [hg]; exact (below_size (hx_ HB)) : w0.heap.size ≤ gb126)); have n7_ := am_ ((by rw [hg]; exact Nat.ne_of_lt (bl_ BK125) : gb125 ≠ gb126)); have n8_ := am_ ((by rw [hg]; exact Nat.ne_of_gt (bl_ BK125) : gb126 ≠ gb125)); clear HO0_5 BK125 HK HB; have HO0_5 := n0_; have BK125 := n1_; have HK := n2_; have HB := n3_; have BK126 := n4_; have GW126 := n5_; have GE126 := n6_; have NB125_126 := n7_; have NB126_125 := n8_; clear n0_ n1_ n2_ n3_ n4_ n5_ n6_ n7_ n8_; clear hb hbox hg) | ((with_reducible refine gate_dst (N := 4) rfl ?_); (try (refine gate_guard (by rfl) ?_; dsimp only)); refine box_event ?hg (N := 4) ?hd (cs := #[.int .u64 0, .int .u64 0, .int .u64 0, .int .u64 0, .string (⟨#[]⟩ : ByteArray), .slice none 0 0]) (t := 30) ?hr ?_; (case hd => rfl); (case hg => rfl); (case hr => first | (go_simp; done) | (go_simp; rfl)); intro gb127 hg w7 hbox hb; have n0_ := am_ (Kd.R_below (rx_ HO0_5) hb); have n1_ := am_ (bb_ BK125 hb); have n2_ := am_ (bb_ BK126 hb); have n3_ := am_ (Kept.below (S := (fun k_ => P0_5_ k_)) (kx_ HK) hb); have n4_ := am_ (below_step (hy_ HB) hb); have n5_ := am_ (hbox); have n6_ := am_ ((by rw [hg]; exact (by first | exact HK.out.1 | exact (show Kept w _ (fun k_ => P0_5_ k_) from kx_ HK).1) : w.heap.size ≤ gb127)); have n7_ := am_ ((by rw [hg]; exact (below_size (hx_ HB)) : w0.heap.size ≤ gb127)); have n8_ := am_ ((by rw [hg]; exact Nat.ne_of_lt (bl_ BK125) : gb125 ≠ gb127)); have n9_ := am_ ((by rw [hg]; exact Nat.ne_of_gt (bl_ BK125) : gb127 ≠ gb125)); have n10_ := am_ ((by rw [hg]; exact Nat.ne_of_lt (bl_ BK126) : gb126 ≠ gb127)); have n11_ := am_ ((by rw [hg]; exact Nat.ne_of_gt (bl_ BK126) : gb127 ≠ gb126)); clear HO0_5 BK125 BK126 HK HB; have HO0_5 := n0_; have BK125 := n1_; have BK126 := n2_; have HK := n3_; have HB := n4_; have BK127 := n5_; have GW127 := n6_; have GE127 := n7_; have NB125_127 := n8_; have NB127_125 := n9_; have NB126_127 := n10_; have NB127_126 := n11_; clear n0_ n1_ n2_ n3_ n4_ n5_ n6_ n7_ n8_ n9_ n10_ n11_; clear hb hbox hg; have hnb8 := NB125_126.out; have hnc8 := NB126_125.out; have hnb9 := NB125_127.out; have hnc9 := NB127_125.out; have hcz10_0 : w7.cell? ⟨gb125, 0, none⟩ = some (.int .u64 a0_0) := (blk_cell BK125.out 0).trans rfl; have hcz10_1 : w7.cell? ⟨gb125, 1, none⟩ = some (.int .u64 a0_1) := (blk_cell BK125.out 1).trans rfl; have hcz10_2 : w7.cell? ⟨gb125, 2, none⟩ = some (.int .u64 a0_2) := (blk_cell BK125.out 2).trans rfl; have hcz10_3 : w7.cell? ⟨gb125, 3, none⟩ = some (.int .u64 a0_3) := (blk_cell BK125.out 3).trans rfl; have hcz10_4 : w7.cell? ⟨gb125, 4, none⟩ = some (.string a0_4) := (blk_cell BK125.out 4).trans rfl; have hcz10_5 : w7.cell? ⟨gb125, 5, none⟩ = some (.slice Ao4 l0_5.length co4) := (blk_cell BK125.out 5).trans rfl; have hfz10_0 := blk_frozen BK125.out 0; have hfz10_1 := blk_frozen BK125.out 1; have hfz10_2 := blk_frozen BK125.out 2; have hfz10_3 := blk_frozen BK125.out 3; have hfz10_4 := blk_frozen BK125.out 4; have hfz10_5 := blk_frozen BK125.out 5) | ((with_reducible refine gate_dst (N := 5) rfl ?_); (try (refine gate_guard (by rfl) ?_; dsimp only)); refine box_event ?hg (N := 5) ?hd (cs := #[.int .u64 0, .int .u64 0, .string (⟨#[]⟩ : ByteArray), .slice none 0 0]) (t := 28) ?hr ?_; (case hd => rfl); (case hg => rfl); (case hr => first | (go_simp; done) | (go_simp; rfl)); intro gb128 hg w11 hbox hb; have n0_ := am_ (Kd.R_below (rx_ HO0_5) hb); have n1_ := am_ (bb_ BK125 hb); have n2_ := am_ (bb_ BK126 hb); have n3_ := am_ (bb_ BK127 hb); have n4_ := am_ (Kept.below (S := (fun k_ => P0_5_ k_)) (kx_ HK) hb); have n5_ := am_ (below_step (hy_ HB) hb); have n6_ := am_ (hbox); have n7_ := am_ ((by rw [hg]; exact (by first | exact HK.out.1 | exact (show Kept w _ (fun k_ => P0_5_ k_) from kx_ HK).1) : w.heap.size ≤ gb128)); have n8_ := am_ ((by rw [hg]; exact (below_size (hx_ HB)) : w0.heap.size ≤ gb128)); have n9_ := am_ ((by rw [hg]; exact Nat.ne_of_lt (bl_ BK125) : gb125 ≠ gb128)); have n10_ := am_ ((by rw [hg]; exact Nat.ne_of_gt (bl_ BK125) : gb128 ≠ gb125)); have n11_ := am_ ((by rw [hg]; exact Nat.ne_of_lt (bl_ BK126) : gb126 ≠ gb128)); have n12_ := am_ ((by rw [hg]; exact Nat.ne_of_gt (bl_ BK126) : gb128 ≠ gb126)); have n13_ := am_ ((by rw [hg]; exact Nat.ne_of_lt (bl_ BK127) : gb127 ≠ gb128)); have n14_ := am_ ((by rw [hg]; exact Nat.ne_of_gt (bl_ BK127) : gb128 ≠ gb127)); clear HO0_5 BK125 BK126 BK127 HK HB; have HO0_5 := n0_; have BK125 := n1_; have BK126 := n2_; have BK127 := n3_; have HK := n4_; have HB := n5_; have BK128 := n6_; have GW128 := n7_; have GE128 := n8_; have NB125_128 := n9_; have NB128_125 := n10_; have NB126_128 := n11_; have NB128_126 := n12_; have NB127_128 := n13_; have NB128_127 := n14_; clear n0_ n1_ n2_ n3_ n4_ n5_ n6_ n7_ n8_ n9_ n10_ n11_ n12_ n13_ n14_; clear hb hbox hg; have hnb12 := NB128_125.out; have hnc12 := NB125_128.out; have hnb13 := NB128_126.out; have hnc13 := NB126_128.out; have hnb14 := NB128_127.out; have hnc14 := NB127_128.out; have hcz15_0 : w11.cell? ⟨gb128, 0, none⟩ = some (.int .u64 0) := (blk_cell BK128.out 0).trans rfl; have hcz15_1 : w11.cell? ⟨gb128, 1, none⟩ = some (.int .u64 0) := (blk_cell BK128.out 1).trans rfl; have hcz15_2 : w11.cell? ⟨gb128, 2, none⟩ = some (.string (⟨#[]⟩ : ByteArray)) := (blk_cell BK128.out 2).trans rfl; have hcz15_3 : w11.cell? ⟨gb128, 3, none⟩ = some (.slice none 0 0) := (blk_cell BK128.out 3).trans rfl; have hfz15_0 := blk_frozen BK128.out 0; have hfz15_1 := blk_frozen BK128.out 1; have hfz15_2 := blk_frozen BK128.out 2; have hfz15_3 := blk_frozen BK128.out 3; have hnb16 := NB126_127.out; have hnc16 := NB127_126.out; have hcz17_0 : w11.cell? ⟨gb126, 0, none⟩ = some (.int .i64 a1_0) := (blk_cell BK126.out 0).trans rfl; have hcz17_1 : w11.cell? ⟨gb126, 1, none⟩ = some (.int .u64 a1_1) := (blk_cell BK126.out 1).trans rfl; have hcz17_2 : w11.cell? ⟨gb126, 2, none⟩ = some (.int .u64 a1_2) := (blk_cell BK126.out 2).trans rfl; have hcz17_3 : w11.cell? ⟨gb126, 3, none⟩ = some (.int .u64 a1_3) := (blk_cell BK126.out 3).trans rfl; have hcz17_4 : w11.cell? ⟨gb126, 4, none⟩ = some (.string a1_4) := (blk_cell BK126.out 4).trans rfl; have hfz17_0 := blk_frozen BK126.out 0; have hfz17_1 := blk_frozen BK126.out 1; have hfz17_2 := blk_frozen BK126.out 2; have hfz17_3 := blk_frozen BK126.out 3; have hfz17_4 := blk_frozen BK126.out 4; have hcz18_0 : w11.cell? ⟨gb125, 0, none⟩ = some (.int .u64 a0_0) := (blk_cell BK125.out 0).trans rfl; have hcz18_1 : w11.cell? ⟨gb125, 1, none⟩ = some (.int .u64 a0_1) := (blk_cell BK125.out 1).trans rfl; have hcz18_2 : w11.cell? ⟨gb125, 2, none⟩ = some (.int .u64 a0_2) := (blk_cell BK125.out 2).trans rfl; have hcz18_3 : w11.cell? ⟨gb125, 3, none⟩ = some (.int .u64 a0_3) := (blk_cell BK125.out 3).trans rfl; have hcz18_4 : w11.cell? ⟨gb125, 4, none⟩ = some (.string a0_4) := (blk_cell BK125.out 4).trans rfl; have hcz18_5 : w11.cell? ⟨gb125, 5, none⟩ = some (.slice Ao4 l0_5.length co4) := (blk_cell BK125.out 5).trans rfl; have hfz18_0 := blk_frozen BK125.out 0; have hfz18_1 := blk_frozen BK125.out 1; have hfz18_2 := blk_frozen BK125.out 2; have hfz18_3 := blk_frozen BK125.out 3; have hfz18_4 := blk_frozen BK125.out 4; have hfz18_5 := blk_frozen BK125.out 5; have hcz19_0 : w11.cell? ⟨gb127, 0, none⟩ = some (.int .u64 0) := (blk_cell BK127.out 0).trans rfl; have hcz19_1 : w11.cell? ⟨gb127, 1, none⟩ = some (.int .u64 0) := (blk_cell BK127.out 1).trans rfl; have hcz19_2 : w11.cell? ⟨gb127, 2, none⟩ = some (.int .u64 0) := (blk_cell BK127.out 2).trans rfl; have hcz19_3 : w11.cell? ⟨gb127, 3, none⟩ = some (.int .u64 0) := (blk_cell BK127.out 3).trans rfl; have hcz19_4 : w11.cell? ⟨gb127, 4, none⟩ = some (.string (⟨#[]⟩ : ByteArray)) := (blk_cell BK127.out 4).trans rfl; have hcz19_5 : w11.cell? ⟨gb127, 5, none⟩ = some (.slice none 0 0) := (blk_cell BK127.out 5).trans rfl; have hfz19_0 := blk_frozen BK127.out 0; have hfz19_1 := blk_frozen BK127.out 1; have hfz19_2 := blk_frozen BK127.out 2; have hfz19_3 := blk_frozen BK127.out 3; have hfz19_4 := blk_frozen BK127.out 4; have hfz19_5 := blk_frozen BK127.out 5))
  refine bodyPost_ret (results_cell_row rfl _ _ gb127 30 #[.int .u64 a1_2, .int .u64 a1_3, .int .u64 a0_2, .int .u64 a0_3, .string a0_4, .slice Ao4 l0_5.length co4] (0, 0) _ rfl (by (with_reducible repeat (first | refine blk_drewN ?_ _ | refine blk_drew ?_ | refine blk_alloc ?_ _)); refine blk_put (cs := #[.int .u64 a1_2, .int .u64 a1_3, .int .u64 a0_2, .int .u64 a0_3, .string a0_4, .slice none 0 0]) ?_ 5 _ rfl; (with_reducible repeat (first | refine blk_drewN ?_ _ | refine blk_drew ?_ | refine blk_alloc ?_ _)); refine blk_put (cs := #[.int .u64 a1_2, .int .u64 a1_3, .int .u64 a0_2, .int .u64 a0_3, .string (⟨#[]⟩ : ByteArray), .slice none 0 0]) ?_ 4 _ rfl; (with_reducible repeat (first | refine blk_drewN ?_ _ | refine blk_drew ?_ | refine blk_alloc ?_ _)); refine blk_put (cs := #[.int .u64 a1_2, .int .u64 a1_3, .int .u64 a0_2, .int .u64 0, .string (⟨#[]⟩ : ByteArray), .slice none 0 0]) ?_ 3 _ rfl; (with_reducible repeat (first | refine blk_drewN ?_ _ | refine blk_drew ?_ | refine blk_alloc ?_ _)); refine blk_put (cs := #[.int .u64 a1_2, .int .u64 a1_3, .int .u64 0, .int .u64 0, .string (⟨#[]⟩ : ByteArray), .slice none 0 0]) ?_ 2 _ rfl; (with_reducible repeat (first | refine blk_drewN ?_ _ | refine blk_drew ?_ | refine blk_alloc ?_ _)); refine blk_put (cs := #[.int .u64 a1_2, .int .u64 0, .int .u64 0, .int .u64 0, .string (⟨#[]⟩ : ByteArray), .slice none 0 0]) ?_ 1 _ rfl; (with_reducible repeat (first | refine blk_drewN ?_ _ | refine blk_drew ?_ | refine blk_alloc ?_ _)); refine blk_put (cs := #[.int .u64 0, .int .u64 0, .int .u64 0, .int .u64 0, .string (⟨#[]⟩ : ByteArray), .slice none 0 0]) ?_ 0 _ rfl; (with_reducible repeat (first | refine blk_drewN ?_ _ | refine blk_drew ?_ | refine blk_alloc ?_ _)); refine blk_far ?_ NB127_125.out _; (with_reducible repeat (first | refine blk_drewN ?_ _ | refine blk_drew ?_ | refine blk_alloc ?_ _)); refine blk_far ?_ NB127_125.out _; (with_reducible repeat (first | refine blk_drewN ?_ _ | refine blk_drew ?_ | refine blk_alloc ?_ _)); refine blk_far ?_ NB127_128.out _; (with_reducible repeat (first | refine blk_drewN ?_ _ | refine blk_drew ?_ | refine blk_alloc ?_ _)); refine blk_far ?_ NB127_128.out _; (with_reducible repeat (first | refine blk_drewN ?_ _ | refine blk_drew ?_ | refine blk_alloc ?_ _)); refine blk_far ?_ NB127_128.out _; (with_reducible repeat (first | refine blk_drewN ?_ _ | refine blk_drew ?_ | refine blk_alloc ?_ _)); refine blk_far ?_ NB127_128.out _; (with_reducible repeat (first | refine blk_drewN ?_ _ | refine blk_drew ?_ | refine blk_alloc ?_ _)); exact BK127.out) Try.underlying30 rfl (by kernel_rfl)) rfl ?_
  exact ⟨_, by first | rfl | (simp [errW_none, errW_some] <;> rfl) | (simp [*, errW_none, errW_some] <;> rfl), by (with_reducible repeat (first | apply Kd.R_alloc | apply Kd.R_drewN | apply Kd.R_drew)); exact Kd.R_mono (Kd.R_far (p := ⟨gb127, 5, none⟩) (Kd.R_far (p := ⟨gb127, 4, none⟩) (Kd.R_far (p := ⟨gb127, 3, none⟩) (Kd.R_far (p := ⟨gb127, 2, none⟩) (Kd.R_far (p := ⟨gb127, 1, none⟩) (Kd.R_far (p := ⟨gb127, 0, none⟩) (Kd.R_far (p := ⟨gb125, 1, none⟩) (Kd.R_far (p := ⟨gb125, 0, none⟩) (Kd.R_far (p := ⟨gb128, 3, none⟩) (Kd.R_far (p := ⟨gb128, 2, none⟩) (Kd.R_far (p := ⟨gb128, 1, none⟩) (Kd.R_far (p := ⟨gb128, 0, none⟩) (Kd.R_types (Kd.R_types (Kd.R_types HO0_5.out BK128.out (by decide)) BK125.out (by decide)) BK127.out (by decide)) (fun _ hk => hk.1.1.2) (.int .u64 a0_2)) (fun _ hk => hk.1.1.2) (.int .u64 a0_3)) (fun _ hk => hk.1.1.2) (.string a0_4)) (fun _ hk => hk.1.1.2) (.slice Ao4 l0_5.length co4)) (fun _ hk => hk.1.2) (.int .u64 a1_2)) (fun _ hk => hk.1.2) (.int .u64 a1_3)) (fun _ hk => hk.2) (.int .u64 a1_2)) (fun _ hk => hk.2) (.int .u64 a1_3)) (fun _ hk => hk.2) (.int .u64 a0_2)) (fun _ hk => hk.2) (.int .u64 a0_3)) (fun _ hk => hk.2) (.string a0_4)) (fun _ hk => hk.2) (.slice Ao4 l0_5.length co4)) (fun _ hk => hk.1.1.1), hx_ HB, kx_ HK⟩
 ·rw [if_neg c3] at H
  have c3b0 : (a1_0 == 1) = false := beq_eq_false_iff_ne.mpr c3
  have c3b1 : (a1_0 != 1) = true := bne_iff_ne.mpr c3
  by_cases c20 : a1_0 = 2
  ·exact absurd c20 hk2
  ·rw [if_neg c20] at H
   have c20b0 : (a1_0 == 2) = false := beq_eq_false_iff_ne.mpr c20
   have c20b1 : (a1_0 != 2) = true := bne_iff_ne.mpr c20
   by_cases c114 : a1_0 = 3
   ·rw [if_pos c114] at H
    have c114b0 : (a1_0 == 3) = true := beq_iff_eq.mpr c114
    have c114b1 : (a1_0 != 3) = false := bne_eq_false_iff_eq.mpr c114
    clear c114
    have H' := am_ H
    clear H
    obtain ⟨Ao115, co115, eo115⟩ := Kd.R_slice HO0_5.out
    subst eo115
    go_enter Try.func44, Try.ntmps44
    go_wp2_with (first | ((with_reducible refine gate_dst (N := 2) rfl ?_); (try (refine gate_guard (by rfl) ?_; dsimp only)); refine box_event ?hg (N := 2) ?hd (cs := #[.int .u64 a0_0, .int .u64 a0_1, .int .u64 a0_2, .int .u64 a0_3, .string a0_4, .slice Ao115 l0_5.length co115]) (t := 30) ?hr ?_; (case hd => rfl); (case hg => rfl); (case hr => first | (go_simp; done) | (go_simp; rfl)); intro gb125 hg w116 hbox hb; have n0_ := am_ (Kd.R_below (rx_ HO0_5) hb); have n1_ := am_ (Kept.below (S := (fun k_ => P0_5_ k_)) (kx_ HK) hb); have n2_ := am_ (below_step (hy_ HB) hb); have n3_ := am_ (hbox); have n4_ := am_ ((by rw [hg]; exact (by first | exact HK.out.1 | exact (show Kept w _ (fun k_ => P0_5_ k_) from kx_ HK).1) : w.heap.size ≤ gb125)); have n5_ := am_ ((by rw [hg]; exact (below_size (hx_ HB)) : w0.heap.size ≤ gb125)); clear HO0_5 HK HB; have HO0_5 := n0_; have HK := n1_; have HB := n2_; have BK125 := n3_; have GW125 := n4_; have GE125 := n5_; clear n0_ n1_ n2_ n3_ n4_ n5_; clear hb hbox hg) | ((with_reducible refine gate_dst (N := 3) rfl ?_); (try (refine gate_guard (by rfl) ?_; dsimp only)); refine box_event ?hg (N := 3) ?hd (cs := #[.int .i64 a1_0, .int .u64 a1_1, .int .u64 a1_2, .int .u64 a1_3, .string a1_4]) (t := 39) ?hr ?_; (case hd => rfl); (case hg => rfl); (case hr => first | (go_simp; done) | (go_simp; rfl)); intro gb126 hg w117 hbox hb; have n0_ := am_ (Kd.R_below (rx_ HO0_5) hb); have n1_ := am_ (bb_ BK125 hb); have n2_ := am_ (Kept.below (S := (fun k_ => P0_5_ k_)) (kx_ HK) hb); have n3_ := am_ (below_step (hy_ HB) hb); have n4_ := am_ (hbox); have n5_ := am_ ((by rw [hg]; exact (by first | exact HK.out.1 | exact (show Kept w _ (fun k_ => P0_5_ k_) from kx_ HK).1) : w.heap.size ≤ gb126)); have n6_ := am_ ((by rw [hg]; exact (below_size (hx_ HB)) : w0.heap.size ≤ gb126)); have n7_ := am_ ((by rw [hg]; exact Nat.ne_of_lt (bl_ BK125) : gb125 ≠ gb126)); have n8_ := am_ ((by rw [hg]; exact Nat.ne_of_gt (bl_ BK125) : gb126 ≠ gb125)); clear HO0_5 BK125 HK HB; have HO0_5 := n0_; have BK125 := n1_; have HK := n2_; have HB := n3_; have BK126 := n4_; have GW126 := n5_; have GE126 := n6_; have NB125_126 := n7_; have NB126_125 := n8_; clear n0_ n1_ n2_ n3_ n4_ n5_ n6_ n7_ n8_; clear hb hbox hg) | ((with_reducible refine gate_dst (N := 4) rfl ?_); (try (refine gate_guard (by rfl) ?_; dsimp only)); refine box_event ?hg (N := 4) ?hd (cs := #[.int .u64 0, .int .u64 0, .int .u64 0, .int .u64 0, .string (⟨#[]⟩ : ByteArray), .slice none 0 0]) (t := 30) ?hr ?_; (case hd => rfl); (case hg => rfl); (case hr => first | (go_simp; done) | (go_simp; rfl)); intro gb127 hg w118 hbox hb; have n0_ := am_ (Kd.R_below (rx_ HO0_5) hb); have n1_ := am_ (bb_ BK125 hb); have n2_ := am_ (bb_ BK126 hb); have n3_ := am_ (Kept.below (S := (fun k_ => P0_5_ k_)) (kx_ HK) hb); have n4_ := am_ (below_step (hy_ HB) hb); have n5_ := am_ (hbox); have n6_ := am_ ((by rw [hg]; exact (by first | exact HK.out.1 | exact (show Kept w _ (fun k_ => P0_5_ k_) from kx_ HK).1) : w.heap.size ≤ gb127)); have n7_ := am_ ((by rw [hg]; exact (below_size (hx_ HB)) : w0.heap.size ≤ gb127)); have n8_ := am_ ((by rw [hg]; exact Nat.ne_of_lt (bl_ BK125) : gb125 ≠ gb127)); have n9_ := am_ ((by rw [hg]; exact Nat.ne_of_gt (bl_ BK125) : gb127 ≠ gb125)); have n10_ := am_ ((by rw [hg]; exact Nat.ne_of_lt (bl_ BK126) : gb126 ≠ gb127)); have n11_ := am_ ((by rw [hg]; exact Nat.ne_of_gt (bl_ BK126) : gb127 ≠ gb126)); clear HO0_5 BK125 BK126 HK HB; have HO0_5 := n0_; have BK125 := n1_; have BK126 := n2_; have HK := n3_; have HB := n4_; have BK127 := n5_; have GW127 := n6_; have GE127 := n7_; have NB125_127 := n8_; have NB127_125 := n9_; have NB126_127 := n10_; have NB127_126 := n11_; clear n0_ n1_ n2_ n3_ n4_ n5_ n6_ n7_ n8_ n9_ n10_ n11_; clear hb hbox hg; have hnb119 := NB125_126.out; have hnc119 := NB126_125.out; have hnb120 := NB125_127.out; have hnc120 := NB127_125.out; have hcz121_0 : w118.cell? ⟨gb125, 0, none⟩ = some (.int .u64 a0_0) := (blk_cell BK125.out 0).trans rfl; have hcz121_1 : w118.cell? ⟨gb125, 1, none⟩ = some (.int .u64 a0_1) := (blk_cell BK125.out 1).trans rfl; have hcz121_2 : w118.cell? ⟨gb125, 2, none⟩ = some (.int .u64 a0_2) := (blk_cell BK125.out 2).trans rfl; have hcz121_3 : w118.cell? ⟨gb125, 3, none⟩ = some (.int .u64 a0_3) := (blk_cell BK125.out 3).trans rfl; have hcz121_4 : w118.cell? ⟨gb125, 4, none⟩ = some (.string a0_4) := (blk_cell BK125.out 4).trans rfl; have hcz121_5 : w118.cell? ⟨gb125, 5, none⟩ = some (.slice Ao115 l0_5.length co115) := (blk_cell BK125.out 5).trans rfl; have hfz121_0 := blk_frozen BK125.out 0; have hfz121_1 := blk_frozen BK125.out 1; have hfz121_2 := blk_frozen BK125.out 2; have hfz121_3 := blk_frozen BK125.out 3; have hfz121_4 := blk_frozen BK125.out 4; have hfz121_5 := blk_frozen BK125.out 5) | ((with_reducible refine gate_dst (N := 5) rfl ?_); (try (refine gate_guard (by rfl) ?_; dsimp only)); refine box_event ?hg (N := 5) ?hd (cs := #[.int .u64 0, .int .u64 0, .string (⟨#[]⟩ : ByteArray), .slice none 0 0]) (t := 28) ?hr ?_; (case hd => rfl); (case hg => rfl); (case hr => first | (go_simp; done) | (go_simp; rfl)); intro gb128 hg w122 hbox hb; have n0_ := am_ (Kd.R_below (rx_ HO0_5) hb); have n1_ := am_ (bb_ BK125 hb); have n2_ := am_ (bb_ BK126 hb); have n3_ := am_ (bb_ BK127 hb); have n4_ := am_ (Kept.below (S := (fun k_ => P0_5_ k_)) (kx_ HK) hb); have n5_ := am_ (below_step (hy_ HB) hb); have n6_ := am_ (hbox); have n7_ := am_ ((by rw [hg]; exact (by first | exact HK.out.1 | exact (show Kept w _ (fun k_ => P0_5_ k_) from kx_ HK).1) : w.heap.size ≤ gb128)); have n8_ := am_ ((by rw [hg]; exact (below_size (hx_ HB)) : w0.heap.size ≤ gb128)); have n9_ := am_ ((by rw [hg]; exact Nat.ne_of_lt (bl_ BK125) : gb125 ≠ gb128)); have n10_ := am_ ((by rw [hg]; exact Nat.ne_of_gt (bl_ BK125) : gb128 ≠ gb125)); have n11_ := am_ ((by rw [hg]; exact Nat.ne_of_lt (bl_ BK126) : gb126 ≠ gb128)); have n12_ := am_ ((by rw [hg]; exact Nat.ne_of_gt (bl_ BK126) : gb128 ≠ gb126)); have n13_ := am_ ((by rw [hg]; exact Nat.ne_of_lt (bl_ BK127) : gb127 ≠ gb128)); have n14_ := am_ ((by rw [hg]; exact Nat.ne_of_gt (bl_ BK127) : gb128 ≠ gb127)); clear HO0_5 BK125 BK126 BK127 HK HB; have HO0_5 := n0_; have BK125 := n1_; have BK126 := n2_; have BK127 := n3_; have HK := n4_; have HB := n5_; have BK128 := n6_; have GW128 := n7_; have GE128 := n8_; have NB125_128 := n9_; have NB128_125 := n10_; have NB126_128 := n11_; have NB128_126 := n12_; have NB127_128 := n13_; have NB128_127 := n14_; clear n0_ n1_ n2_ n3_ n4_ n5_ n6_ n7_ n8_ n9_ n10_ n11_ n12_ n13_ n14_; clear hb hbox hg; have hnb123 := NB128_125.out; have hnc123 := NB125_128.out; have hnb124 := NB128_126.out; have hnc124 := NB126_128.out; have hnb125 := NB128_127.out; have hnc125 := NB127_128.out; have hcz126_0 : w122.cell? ⟨gb128, 0, none⟩ = some (.int .u64 0) := (blk_cell BK128.out 0).trans rfl; have hcz126_1 : w122.cell? ⟨gb128, 1, none⟩ = some (.int .u64 0) := (blk_cell BK128.out 1).trans rfl; have hcz126_2 : w122.cell? ⟨gb128, 2, none⟩ = some (.string (⟨#[]⟩ : ByteArray)) := (blk_cell BK128.out 2).trans rfl; have hcz126_3 : w122.cell? ⟨gb128, 3, none⟩ = some (.slice none 0 0) := (blk_cell BK128.out 3).trans rfl; have hfz126_0 := blk_frozen BK128.out 0; have hfz126_1 := blk_frozen BK128.out 1; have hfz126_2 := blk_frozen BK128.out 2; have hfz126_3 := blk_frozen BK128.out 3; have hnb127 := NB126_127.out; have hnc127 := NB127_126.out; have hcz128_0 : w122.cell? ⟨gb126, 0, none⟩ = some (.int .i64 a1_0) := (blk_cell BK126.out 0).trans rfl; have hcz128_1 : w122.cell? ⟨gb126, 1, none⟩ = some (.int .u64 a1_1) := (blk_cell BK126.out 1).trans rfl; have hcz128_2 : w122.cell? ⟨gb126, 2, none⟩ = some (.int .u64 a1_2) := (blk_cell BK126.out 2).trans rfl; have hcz128_3 : w122.cell? ⟨gb126, 3, none⟩ = some (.int .u64 a1_3) := (blk_cell BK126.out 3).trans rfl; have hcz128_4 : w122.cell? ⟨gb126, 4, none⟩ = some (.string a1_4) := (blk_cell BK126.out 4).trans rfl; have hfz128_0 := blk_frozen BK126.out 0; have hfz128_1 := blk_frozen BK126.out 1; have hfz128_2 := blk_frozen BK126.out 2; have hfz128_3 := blk_frozen BK126.out 3; have hfz128_4 := blk_frozen BK126.out 4))
    go_loopg [6, 7] k (fun kq v6 v7 w' => ∃ (x6_1 : List (S75)) (x7_1 : Int), v7 = .int .i64 x7_1 ∧ Aside0 (ferruleref04_Step.l0 kq x6_1 x7_1 a0_0 a0_1 a0_2 a0_3 a0_4 l0_5 a1_0 a1_1 a1_2 a1_3 a1_4 a0_2 a0_3 a0_4 l0_5 = some (r1, r2, r3, r4, r5, r6)) ∧ Aside0 (kq ≤ k) ∧ Aside0 (Kd.R k75 75 w' w0.heap.size (fun k_ => (P0_5_ k_ ∨ w.heap.size ≤ k_) ∧ some k_ ≠ ((.slice Ao115 l0_5.length co115) : Value).ownBlock ∧ some k_ ≠ ((.slice Ao115 l0_5.length co115) : Value).ownBlock) v6 x6_1) ∧ Aside0 (Kd.R k75 75 w' w0.heap.size (fun k_ => (P0_5_ k_ ∨ w.heap.size ≤ k_) ∧ some k_ ≠ (v6 : Value).ownBlock) (.slice Ao115 l0_5.length co115) l0_5) ∧ Aside0 (Kd.R k75 75 w' w0.heap.size (fun k_ => (P0_5_ k_ ∨ w.heap.size ≤ k_) ∧ some k_ ≠ (v6 : Value).ownBlock) (.slice Ao115 l0_5.length co115) l0_5) ∧ Aside0 (w'.heap[gb125]? = some (.cells #[.int .u64 a0_0, .int .u64 a0_1, .int .u64 a0_2, .int .u64 a0_3, .string a0_4, (.slice Ao115 l0_5.length co115)] 30 (0, 0))) ∧ Aside0 (w'.heap[gb126]? = some (.cells #[.int .i64 a1_0, .int .u64 a1_1, .int .u64 a1_2, .int .u64 a1_3, .string a1_4] 39 (0, 0))) ∧ Aside0 (w'.heap[gb127]? = some (.cells #[.int .u64 0, .int .u64 0, .int .u64 0, .int .u64 0, .string (⟨#[]⟩ : ByteArray), (.slice none 0 0)] 30 (0, 0))) ∧ Aside0 (w'.heap[gb128]? = some (.cells #[.int .u64 a0_2, .int .u64 a0_3, .string a0_4, (.slice Ao115 l0_5.length co115)] 28 (0, 0))) ∧ Aside0 (Kept w w' (fun k_ => P0_5_ k_)) ∧ Aside0 (Below w0.heap.size w0 w'))
    case atStart => exact ⟨(([] : List (S75))), (0), (by first | rfl | (simp; done) | (simp [*]; done)), H', ⟨Nat.le_refl _⟩, ⟨by first | exact Kd.R_nil _ _ _ _ _ | exact Kd.N_nil _ _ _ _ _ | exact Kd.V_nil _ _ _ _ _ | exact Kd.Q_nil _ _ _ _ _ | exact Kd.S_nil _ _ _ _ _⟩, ⟨by (with_reducible repeat (first | apply Kd.R_alloc | apply Kd.R_drewN | apply Kd.R_drew)); exact Kd.R_mono (Kd.R_far (p := ⟨gb128, 3, none⟩) (Kd.R_far (p := ⟨gb128, 2, none⟩) (Kd.R_far (p := ⟨gb128, 1, none⟩) (Kd.R_far (p := ⟨gb128, 0, none⟩) (Kd.R_types HO0_5.out BK128.out (by decide)) (fun _ hk => hk.2) (.int .u64 a0_2)) (fun _ hk => hk.2) (.int .u64 a0_3)) (fun _ hk => hk.2) (.string a0_4)) (fun _ hk => hk.2) (.slice Ao115 l0_5.length co115)) (fun _ hk => ⟨hk.1, (by simp [Value.ownBlock])⟩)⟩, ⟨by (with_reducible repeat (first | apply Kd.R_alloc | apply Kd.R_drewN | apply Kd.R_drew)); exact Kd.R_mono (Kd.R_far (p := ⟨gb128, 3, none⟩) (Kd.R_far (p := ⟨gb128, 2, none⟩) (Kd.R_far (p := ⟨gb128, 1, none⟩) (Kd.R_far (p := ⟨gb128, 0, none⟩) (Kd.R_types HO0_5.out BK128.out (by decide)) (fun _ hk => hk.2) (.int .u64 a0_2)) (fun _ hk => hk.2) (.int .u64 a0_3)) (fun _ hk => hk.2) (.string a0_4)) (fun _ hk => hk.2) (.slice Ao115 l0_5.length co115)) (fun _ hk => ⟨hk.1, (by simp [Value.ownBlock])⟩)⟩, ⟨by (with_reducible repeat (first | refine blk_drewN ?_ _ | refine blk_drew ?_ | refine blk_alloc ?_ _)); refine blk_far ?_ NB125_128.out _; (with_reducible repeat (first | refine blk_drewN ?_ _ | refine blk_drew ?_ | refine blk_alloc ?_ _)); refine blk_far ?_ NB125_128.out _; (with_reducible repeat (first | refine blk_drewN ?_ _ | refine blk_drew ?_ | refine blk_alloc ?_ _)); refine blk_far ?_ NB125_128.out _; (with_reducible repeat (first | refine blk_drewN ?_ _ | refine blk_drew ?_ | refine blk_alloc ?_ _)); refine blk_far ?_ NB125_128.out _; (with_reducible repeat (first | refine blk_drewN ?_ _ | refine blk_drew ?_ | refine blk_alloc ?_ _)); exact BK125.out⟩, ⟨by (with_reducible repeat (first | refine blk_drewN ?_ _ | refine blk_drew ?_ | refine blk_alloc ?_ _)); refine blk_far ?_ NB126_128.out _; (with_reducible repeat (first | refine blk_drewN ?_ _ | refine blk_drew ?_ | refine blk_alloc ?_ _)); refine blk_far ?_ NB126_128.out _; (with_reducible repeat (first | refine blk_drewN ?_ _ | refine blk_drew ?_ | refine blk_alloc ?_ _)); refine blk_far ?_ NB126_128.out _; (with_reducible repeat (first | refine blk_drewN ?_ _ | refine blk_drew ?_ | refine blk_alloc ?_ _)); refine blk_far ?_ NB126_128.out _; (with_reducible repeat (first | refine blk_drewN ?_ _ | refine blk_drew ?_ | refine blk_alloc ?_ _)); exact BK126.out⟩, ⟨by (with_reducible repeat (first | refine blk_drewN ?_ _ | refine blk_drew ?_ | refine blk_alloc ?_ _)); refine blk_far ?_ NB127_128.out _; (with_reducible repeat (first | refine blk_drewN ?_ _ | refine blk_drew ?_ | refine blk_alloc ?_ _)); refine blk_far ?_ NB127_128.out _; (with_reducible repeat (first | refine blk_drewN ?_ _ | refine blk_drew ?_ | refine blk_alloc ?_ _)); refine blk_far ?_ NB127_128.out _; (with_reducible repeat (first | refine blk_drewN ?_ _ | refine blk_drew ?_ | refine blk_alloc ?_ _)); refine blk_far ?_ NB127_128.out _; (with_reducible repeat (first | refine blk_drewN ?_ _ | refine blk_drew ?_ | refine blk_alloc ?_ _)); exact BK127.out⟩, ⟨by (with_reducible repeat (first | refine blk_drewN ?_ _ | refine blk_drew ?_ | refine blk_alloc ?_ _)); refine blk_put (cs := #[.int .u64 a0_2, .int .u64 a0_3, .string a0_4, .slice none 0 0]) ?_ 3 _ rfl; (with_reducible repeat (first | refine blk_drewN ?_ _ | refine blk_drew ?_ | refine blk_alloc ?_ _)); refine blk_put (cs := #[.int .u64 a0_2, .int .u64 a0_3, .string (⟨#[]⟩ : ByteArray), .slice none 0 0]) ?_ 2 _ rfl; (with_reducible repeat (first | refine blk_drewN ?_ _ | refine blk_drew ?_ | refine blk_alloc ?_ _)); refine blk_put (cs := #[.int .u64 a0_2, .int .u64 0, .string (⟨#[]⟩ : ByteArray), .slice none 0 0]) ?_ 1 _ rfl; (with_reducible repeat (first | refine blk_drewN ?_ _ | refine blk_drew ?_ | refine blk_alloc ?_ _)); refine blk_put (cs := #[.int .u64 0, .int .u64 0, .string (⟨#[]⟩ : ByteArray), .slice none 0 0]) ?_ 0 _ rfl; (with_reducible repeat (first | refine blk_drewN ?_ _ | refine blk_drew ?_ | refine blk_alloc ?_ _)); exact BK128.out⟩, ⟨kx_ HK⟩, ⟨hx_ HB⟩⟩
    case round =>
     clear H'
     try clear c1
     try clear c2
     try clear p2
     try clear c4
     try clear c5
     try clear c8
     try clear c9
     try clear c10
     try clear c11
     try clear c12
     try clear c20
     try clear c20b0
     try clear c20b1
     try clear c22
     try clear c22b0
     try clear c22b1
     try clear c23
     try clear c23b0
     try clear c23b1
     try clear c44
     try clear c54
     try clear c80
     try clear c81
     try clear c84
     try clear c85
     try clear c86
     try clear c88
     try clear c99
     try clear c100
     try clear c103
     try clear c104
     try clear c105
     try clear c107
     try clear c114
     try clear c114b0
     try clear c114b1
     try clear c119
     try clear c120
     try clear c123
     try clear c124
     try clear c125
     try clear c127
     try clear hcz101_0
     try clear hcz101_1
     try clear hcz101_2
     try clear hcz101_3
     try clear hcz101_4
     try clear hcz101_5
     try clear hcz106_0
     try clear hcz106_1
     try clear hcz106_2
     try clear hcz106_3
     try clear hcz108_0
     try clear hcz108_1
     try clear hcz108_2
     try clear hcz108_3
     try clear hcz108_4
     try clear hcz112_0
     try clear hcz112_1
     try clear hcz112_2
     try clear hcz112_3
     try clear hcz112_4
     try clear hcz112_5
     try clear hcz113_0
     try clear hcz113_1
     try clear hcz113_2
     try clear hcz113_3
     try clear hcz113_4
     try clear hcz113_5
     try clear hcz121_0
     try clear hcz121_1
     try clear hcz121_2
     try clear hcz121_3
     try clear hcz121_4
     try clear hcz121_5
     try clear hcz126_0
     try clear hcz126_1
     try clear hcz126_2
     try clear hcz126_3
     try clear hcz128_0
     try clear hcz128_1
     try clear hcz128_2
     try clear hcz128_3
     try clear hcz128_4
     try clear hcz74_0
     try clear hcz74_1
     try clear hcz74_2
     try clear hcz74_3
     try clear hcz74_4
     try clear hcz74_5
     try clear hcz75_0
     try clear hcz75_1
     try clear hcz75_2
     try clear hcz75_3
     try clear hcz75_4
     try clear hcz75_5
     try clear hcz82_0
     try clear hcz82_1
     try clear hcz82_2
     try clear hcz82_3
     try clear hcz82_4
     try clear hcz82_5
     try clear hcz87_0
     try clear hcz87_1
     try clear hcz87_2
     try clear hcz87_3
     try clear hcz89_0
     try clear hcz89_1
     try clear hcz89_2
     try clear hcz89_3
     try clear hcz89_4
     try clear hcz93_0
     try clear hcz93_1
     try clear hcz93_2
     try clear hcz93_3
     try clear hcz93_4
     try clear hcz93_5
     try clear hcz94_0
     try clear hcz94_1
     try clear hcz94_2
     try clear hcz94_3
     try clear hcz94_4
     try clear hcz94_5
     try clear hfz101_0
     try clear hfz101_1
     try clear hfz101_2
     try clear hfz101_3
     try clear hfz101_4
     try clear hfz101_5
     try clear hfz106_0
     try clear hfz106_1
     try clear hfz106_2
     try clear hfz106_3
     try clear hfz108_0
     try clear hfz108_1
     try clear hfz108_2
     try clear hfz108_3
     try clear hfz108_4
     try clear hfz112_0
     try clear hfz112_1
     try clear hfz112_2
     try clear hfz112_3
     try clear hfz112_4
     try clear hfz112_5
     try clear hfz113_0
     try clear hfz113_1
     try clear hfz113_2
     try clear hfz113_3
     try clear hfz113_4
     try clear hfz113_5
     try clear hfz121_0
     try clear hfz121_1
     try clear hfz121_2
     try clear hfz121_3
     try clear hfz121_4
     try clear hfz121_5
     try clear hfz126_0
     try clear hfz126_1
     try clear hfz126_2
     try clear hfz126_3
     try clear hfz128_0
     try clear hfz128_1
     try clear hfz128_2
     try clear hfz128_3
     try clear hfz128_4
     try clear hfz74_0
     try clear hfz74_1
     try clear hfz74_2
     try clear hfz74_3
     try clear hfz74_4
     try clear hfz74_5
     try clear hfz75_0
     try clear hfz75_1
     try clear hfz75_2
     try clear hfz75_3
     try clear hfz75_4
     try clear hfz75_5
     try clear hfz82_0
     try clear hfz82_1
     try clear hfz82_2
     try clear hfz82_3
     try clear hfz82_4
     try clear hfz82_5
     try clear hfz87_0
     try clear hfz87_1
     try clear hfz87_2
     try clear hfz87_3
     try clear hfz89_0
     try clear hfz89_1
     try clear hfz89_2
     try clear hfz89_3
     try clear hfz89_4
     try clear hfz93_0
     try clear hfz93_1
     try clear hfz93_2
     try clear hfz93_3
     try clear hfz93_4
     try clear hfz93_5
     try clear hfz94_0
     try clear hfz94_1
     try clear hfz94_2
     try clear hfz94_3
     try clear hfz94_4
     try clear hfz94_5
     obtain ⟨x6_1, x7_1, rfl, HA, HK1, HO_6, HO_126005, HO_129003, BK125, BK126, BK127, BK128, HK, HB⟩ := hrel
     cases gk with
     | zero => exact absurd HA.out (by simp [ferruleref04_Step.l0])
     | succ k1 =>
      have H := HA.out
      clear HA
      simp only [ferruleref04_Step.l0] at H
      by_cases c129 : x7_1 < (l0_5.length : Int)
      ·rw [if_pos c129] at H
       have c129b0 : decide (x7_1 < (l0_5.length : Int)) = true := decide_eq_true c129
       clear c129
       by_cases c130 : (IntKind.u64.wrap ((IntKind.u64.wrap (a0_2 + (IntKind.u64.wrap (x7_1)))) + 1)) < a1_1
       ·rw [if_pos c130] at H
        have c130b0 : decide ((IntKind.u64.wrap ((IntKind.u64.wrap (a0_2 + (IntKind.u64.wrap (x7_1)))) + 1)) < a1_1) = true := decide_eq_true c130
        clear c130
        by_cases c131 : 0 ≤ x7_1
        ·rw [if_pos c131] at H
         have c131b0 : decide (0 ≤ x7_1) = true := decide_eq_true c131
         clear c131
         obtain ⟨y143, hy143⟩ : ∃ y_ : List (S75), y_ = (([(⟨(rd_T75 l0_5 x7_1).f0, (rd_T75 l0_5 x7_1).f1⟩ : S75)] : List (S75))) := ⟨_, rfl⟩
         replace H : (if x6_1.length + y143.length < 5864062014805 then (ferruleref04_Step.l0 k1 (x6_1 ++ y143) (wrap64 (x7_1 + 1)) a0_0 a0_1 a0_2 a0_3 a0_4 l0_5 a1_0 a1_1 a1_2 a1_3 a1_4 a0_2 a0_3 a0_4 l0_5) else (none)) = some (r1, r2, r3, r4, r5, r6) := by first | (rw [hy143]; with_reducible exact H) | (have H2_ := (Option.bind_some _ _).symm.trans H; rw [hy143]; with_reducible exact H2_) | (have H2_ := (Option.bind_some _ _).symm.trans H; with_reducible exact H2_) | with_reducible exact H | (rw [hy143]; exact H) | exact H
         have Ny143 := am_ hy143
         clear hy143
         by_cases c132 : x6_1.length + y143.length < 5864062014805
         ·rw [if_pos c132] at H
          have LMc132 := am_ c132
          clear c132
          obtain ⟨y146, hy146⟩ : ∃ y_ : List (S75), y_ = (x6_1 ++ y143) := ⟨_, rfl⟩
          replace H : (ferruleref04_Step.l0 k1 y146 (wrap64 (x7_1 + 1)) a0_0 a0_1 a0_2 a0_3 a0_4 l0_5 a1_0 a1_1 a1_2 a1_3 a1_4 a0_2 a0_3 a0_4 l0_5) = some (r1, r2, r3, r4, r5, r6) := by first | (rw [hy146]; with_reducible exact H) | (have H2_ := (Option.bind_some _ _).symm.trans H; rw [hy146]; with_reducible exact H2_) | (have H2_ := (Option.bind_some _ _).symm.trans H; with_reducible exact H2_) | with_reducible exact H | (rw [hy146]; exact H) | exact H
          have Ny146 := am_ hy146
          clear hy146
          have H' := am_ H
          clear H
          have hnb133 := NB128_125.out
          have hnc133 := NB125_128.out
          have hnb134 := NB128_126.out
          have hnc134 := NB126_128.out
          have hnb135 := NB128_127.out
          have hnc135 := NB127_128.out
          have hcz136_0 : wr.cell? ⟨gb128, 0, none⟩ = some (.int .u64 a0_2) := (blk_cell BK128.out 0).trans rfl
          have hcz136_1 : wr.cell? ⟨gb128, 1, none⟩ = some (.int .u64 a0_3) := (blk_cell BK128.out 1).trans rfl
          have hcz136_2 : wr.cell? ⟨gb128, 2, none⟩ = some (.string a0_4) := (blk_cell BK128.out 2).trans rfl
          have hcz136_3 : wr.cell? ⟨gb128, 3, none⟩ = some (.slice Ao115 l0_5.length co115) := (blk_cell BK128.out 3).trans rfl
          have hfz136_0 := blk_frozen BK128.out 0
          have hfz136_1 := blk_frozen BK128.out 1
          have hfz136_2 := blk_frozen BK128.out 2
          have hfz136_3 := blk_frozen BK128.out 3
          have hnb137 := NB126_125.out
          have hnc137 := NB125_126.out
          have hnb138 := NB126_127.out
          have hnc138 := NB127_126.out
          have hcz139_0 : wr.cell? ⟨gb126, 0, none⟩ = some (.int .i64 a1_0) := (blk_cell BK126.out 0).trans rfl
          have hcz139_1 : wr.cell? ⟨gb126, 1, none⟩ = some (.int .u64 a1_1) := (blk_cell BK126.out 1).trans rfl
          have hcz139_2 : wr.cell? ⟨gb126, 2, none⟩ = some (.int .u64 a1_2) := (blk_cell BK126.out 2).trans rfl
          have hcz139_3 : wr.cell? ⟨gb126, 3, none⟩ = some (.int .u64 a1_3) := (blk_cell BK126.out 3).trans rfl
          have hcz139_4 : wr.cell? ⟨gb126, 4, none⟩ = some (.string a1_4) := (blk_cell BK126.out 4).trans rfl
          have hfz139_0 := blk_frozen BK126.out 0
          have hfz139_1 := blk_frozen BK126.out 1
          have hfz139_2 := blk_frozen BK126.out 2
          have hfz139_3 := blk_frozen BK126.out 3
          have hfz139_4 := blk_frozen BK126.out 4
          have p142 : 0 ≤ (x7_1 : Int) := of_decide_eq_true (by first | (with_reducible assumption) | assumption)
          have q142 : x7_1 < (l0_5.length : Int) := of_decide_eq_true (by first | (with_reducible assumption) | assumption)
          obtain ⟨ad142, e142, hx142_0, hx142_1⟩ := at_T75 (Kd.R_reads' HO_129003.out).2.2 x7_1 p142 q142
          cases e142
          replace p142 := eq_true p142
          replace q142 := eq_true q142
          go_wp2_with (first | ((with_reducible refine gate_dst (N := 80) rfl ?_); (try (refine gate_guard (by rfl) ?_; dsimp only)); refine Kd.R_lit k75 _ 75 ?hg (N := 80) ?hd (xs := ([(⟨(rd_T75 l0_5 x7_1).f0, (rd_T75 l0_5 x7_1).f1⟩ : S75)] : List (S75))) (inner := [.int .u64 ((rd_T75 l0_5 x7_1).f0), .string ((rd_T75 l0_5 x7_1).f1)]) (ok := fun _ => True) (okp := fun _ => True) ?hr ?hp (fun _ hk => hk) trivial (Below.refl _ _) (Nat.le_refl _) (by simp) ?_; (case hd => rfl); (case hg => rfl); (case hr => first | (go_simp; done) | (go_simp; rfl)); (case hp => exact (Reps.c2 (show Kd.M k75 _ _ _ (⟨(rd_T75 l0_5 x7_1).f0, (rd_T75 l0_5 x7_1).f1⟩ : S75) [.int .u64 ((rd_T75 l0_5 x7_1).f0), .string ((rd_T75 l0_5 x7_1).f1)] from (k75_mkM _ _ _ (⟨(rd_T75 l0_5 x7_1).f0, (rd_T75 l0_5 x7_1).f1⟩ : S75) )) (Reps.none _ _))); intro v144 w140 ho141 hb hg_ hnew_; clear hg_ hnew_; (first | rw [← Ny143.out] at ho141 | (simp only [Int.reduceToNat] at ho141; rw [← Ny143.out] at ho141)); have n0_ := am_ (Kd.R_elder' (rx_ HO_6) (Kd.R_base ho141) hb); have n1_ := am_ (Kd.R_elder' (rx_ HO_126005) (Kd.R_base ho141) hb); have n2_ := am_ (Kd.R_elder' (rx_ HO_129003) (Kd.R_base ho141) hb); have n3_ := am_ (Kd.R_lower (Kd.R_new' (Kd.R_new' (Kd.R_new' (Kd.R_newM (M := fun k_ => (P0_5_ k_ ∨ w.heap.size ≤ k_)) ho141 (by first | exact HK.out.1 | exact (show Kept w _ (fun k_ => P0_5_ k_) from kx_ HK).1) (fun k_ h_ => .inr h_)) (Kd.R_lt (rx_ HO_6))) (Kd.R_lt (rx_ HO_126005))) (Kd.R_lt (rx_ HO_129003))) (below_size (hx_ HB))); have n4_ := am_ (bb_ BK125 hb); have n5_ := am_ (bb_ BK126 hb); have n6_ := am_ (bb_ BK127 hb); have n7_ := am_ (bb_ BK128 hb); have n8_ := am_ (Kept.below (S := (fun k_ => P0_5_ k_)) (kx_ HK) hb); have n9_ := am_ (below_step (hy_ HB) hb); clear HO_6 HO_126005 HO_129003 BK125 BK126 BK127 BK128 HK HB; have HO_6 := n0_; have HO_126005 := n1_; have HO_129003 := n2_; have HO145 := n3_; have BK125 := n4_; have BK126 := n5_; have BK127 := n6_; have BK128 := n7_; have HK := n8_; have HB := n9_; clear n0_ n1_ n2_ n3_ n4_ n5_ n6_ n7_ n8_ n9_; clear hb ho141; obtain ⟨Ao143, co143, eo143⟩ := Kd.R_slice HO145.out; subst eo143) | ((with_reducible refine gate_builtin (b := .append) (xs := #[.tmp 74, .tmp 80]) rfl ?_); (try (refine gate_guard (by rfl) ?_; dsimp only)); at_builtin; refine Kd.R_append_rows k75 (w0 := w0) w0.heap.size rfl (.tmp 74) (.tmp 80) 26 75 (.agg #[(.int .u64 0), (.string ⟨#[]⟩)]) 24 rfl Try.underlying26 info75 rfl (by decide) (by omega) u6 x6_1 y143 _ _ _ (fun k_ => (P0_5_ k_ ∨ w.heap.size ≤ k_) ∧ some k_ ≠ (.slice (some ad142) l0_5.length co115 : Value).ownBlock ∧ some k_ ≠ (.slice (some ad142) l0_5.length co115 : Value).ownBlock ∧ some k_ ≠ (.slice Ao143 y143.length co143 : Value).ownBlock) (fun _ => False) rfl rfl ?aO ?aR (fun _ _ h => h) (fun _ h => h.elim) ?aF ?aB ?aS ?aL ?_; (case aR => repeat (first | exact (Kd.R_reads' HO145.out).2.2 | (with_reducible refine Kd.C_alloc ?_ _) | (with_reducible refine Kd.C_drewN ?_ _) | (with_reducible refine Kd.C_drew ?_))); (case aB => exact (hx_ HB)); (case aF => exact (fun k_ hk => ⟨(.inr (Nat.le_trans (by first | exact HK.out.1 | exact (show Kept w _ (fun k_ => P0_5_ k_) from kx_ HK).1) hk)), Kd.fresh' (Kd.R_lt (rx_ HO_126005)) k_ hk, Kd.fresh' (Kd.R_lt (rx_ HO_129003)) k_ hk, Kd.fresh' (Kd.R_lt (rx_ HO145)) k_ hk⟩)); (case aO => exact (by (with_reducible repeat (first | apply Kd.R_alloc | apply Kd.R_drewN | apply Kd.R_drew)); exact Kd.R_mono HO_6.out (fun _ hk => ⟨hk.1.1, ⟨hk.1.2.1, ⟨hk.1.2.2, hk.2⟩⟩⟩))); (case aS => exact (below_size (hx_ HB))); (case aL => have := LMc132.out; omega); intro v147 w142 ho hb hg hat; rw [← Ny146.out] at ho; have n0_ := am_ (Kd.R_after (ok := (fun k_ => (P0_5_ k_ ∨ w.heap.size ≤ k_) ∧ some k_ ≠ (.slice Ao143 y143.length co143 : Value).ownBlock)) (by (with_reducible repeat (first | apply Kd.R_alloc | apply Kd.R_drewN | apply Kd.R_drew)); exact Kd.R_mono HO_126005.out (fun _ hk => ⟨⟨hk.1.1, hk.2⟩, hk.1.2⟩)) hg hat); have n1_ := am_ (Kd.R_after (ok := (fun k_ => (P0_5_ k_ ∨ w.heap.size ≤ k_) ∧ some k_ ≠ (.slice Ao143 y143.length co143 : Value).ownBlock)) (by (with_reducible repeat (first | apply Kd.R_alloc | apply Kd.R_drewN | apply Kd.R_drew)); exact Kd.R_mono HO_129003.out (fun _ hk => ⟨⟨hk.1.1, hk.2⟩, hk.1.2⟩)) hg hat); have n2_ := am_ (blk_grown (g := gb125) (o := .cells #[.int .u64 a0_0, .int .u64 a0_1, .int .u64 a0_2, .int .u64 a0_3, .string a0_4, .slice (some ad142) l0_5.length co115] 30 (0, 0)) (bx_ BK125) hg (Kd.R_ne HO_6.out BK125.out (by decide))); have n3_ := am_ (blk_grown (g := gb126) (o := .cells #[.int .i64 a1_0, .int .u64 a1_1, .int .u64 a1_2, .int .u64 a1_3, .string a1_4] 39 (0, 0)) (bx_ BK126) hg (Kd.R_ne HO_6.out BK126.out (by decide))); have n4_ := am_ (blk_grown (g := gb127) (o := .cells #[.int .u64 0, .int .u64 0, .int .u64 0, .int .u64 0, .string (⟨#[]⟩ : ByteArray), .slice none 0 0] 30 (0, 0)) (bx_ BK127) hg (Kd.R_ne HO_6.out BK127.out (by decide))); have n5_ := am_ (blk_grown (g := gb128) (o := .cells #[.int .u64 a0_2, .int .u64 a0_3, .string a0_4, .slice (some ad142) l0_5.length co115] 28 (0, 0)) (bx_ BK128) hg (Kd.R_ne HO_6.out BK128.out (by decide))); have n6_ := am_ (Kd.R_after (ok := (fun k_ => (P0_5_ k_ ∨ w.heap.size ≤ k_) ∧ some k_ ≠ (.slice (some ad142) l0_5.length co115 : Value).ownBlock ∧ some k_ ≠ (.slice (some ad142) l0_5.length co115 : Value).ownBlock)) (by (with_reducible repeat (first | apply Kd.R_alloc | apply Kd.R_drewN | apply Kd.R_drew)); exact Kd.R_mono HO145.out (fun _ hk => ⟨⟨hk.1.1.1.1, ⟨hk.1.2, hk.2⟩⟩, hk.1.1.2⟩)) hg hat); have n7_ := am_ (hb); have n8_ := am_ (Kept.of_grown (S := (fun k_ => P0_5_ k_)) hg (kx_ HK) (fun k_ e_ => (HO_6.out.1 k_ e_).1.1)); have n9_ := am_ (ho); clear HO_126005 HO_129003 BK125 BK126 BK127 BK128 HO145 HB HK HO_6; have HO_126005 := n0_; have HO_129003 := n1_; have BK125 := n2_; have BK126 := n3_; have BK127 := n4_; have BK128 := n5_; have HO145 := n6_; have HB := n7_; have HK := n8_; have HO148 := n9_; clear n0_ n1_ n2_ n3_ n4_ n5_ n6_ n7_ n8_ n9_; clear ho hb hg hat))
          go_roundg k1
          case measure => have := HK1.out; omega
          case rel => exact ⟨(y146), (wrap64 (x7_1 + 1)), (by first | rfl | (simp; done) | (simp [*]; done)), H', ⟨by have := HK1.out; omega⟩, ⟨by (with_reducible repeat (first | apply Kd.R_alloc | apply Kd.R_drewN | apply Kd.R_drew)); exact Kd.R_mono HO148.out (fun _ hk => ⟨hk.1, ⟨hk.2.1, hk.2.2.1⟩⟩)⟩, ⟨by (with_reducible repeat (first | apply Kd.R_alloc | apply Kd.R_drewN | apply Kd.R_drew)); exact Kd.R_mono HO_126005.out (fun _ hk => ⟨hk.1.1, hk.2⟩)⟩, ⟨by (with_reducible repeat (first | apply Kd.R_alloc | apply Kd.R_drewN | apply Kd.R_drew)); exact Kd.R_mono HO_129003.out (fun _ hk => ⟨hk.1.1, hk.2⟩)⟩, ⟨bx_ BK125⟩, ⟨bx_ BK126⟩, ⟨bx_ BK127⟩, ⟨bx_ BK128⟩, ⟨kx_ HK⟩, ⟨hx_ HB⟩⟩
         ·rw [if_neg c132] at H
          exact absurd H (by simp)
        ·rw [if_neg c131] at H
         exact absurd H (by simp)
       ·rw [if_neg c130] at H
        have c130b0 : decide ((IntKind.u64.wrap ((IntKind.u64.wrap (a0_2 + (IntKind.u64.wrap (x7_1)))) + 1)) < a1_1) = false := decide_eq_false c130
        clear c130
        have H' := am_ H
        clear H
        have hnb144 := NB128_125.out
        have hnc144 := NB125_128.out
        have hnb145 := NB128_126.out
        have hnc145 := NB126_128.out
        have hnb146 := NB128_127.out
        have hnc146 := NB127_128.out
        have hcz147_0 : wr.cell? ⟨gb128, 0, none⟩ = some (.int .u64 a0_2) := (blk_cell BK128.out 0).trans rfl
        have hcz147_1 : wr.cell? ⟨gb128, 1, none⟩ = some (.int .u64 a0_3) := (blk_cell BK128.out 1).trans rfl
        have hcz147_2 : wr.cell? ⟨gb128, 2, none⟩ = some (.string a0_4) := (blk_cell BK128.out 2).trans rfl
        have hcz147_3 : wr.cell? ⟨gb128, 3, none⟩ = some (.slice Ao115 l0_5.length co115) := (blk_cell BK128.out 3).trans rfl
        have hfz147_0 := blk_frozen BK128.out 0
        have hfz147_1 := blk_frozen BK128.out 1
        have hfz147_2 := blk_frozen BK128.out 2
        have hfz147_3 := blk_frozen BK128.out 3
        have hnb148 := NB126_125.out
        have hnc148 := NB125_126.out
        have hnb149 := NB126_127.out
        have hnc149 := NB127_126.out
        have hcz150_0 : wr.cell? ⟨gb126, 0, none⟩ = some (.int .i64 a1_0) := (blk_cell BK126.out 0).trans rfl
        have hcz150_1 : wr.cell? ⟨gb126, 1, none⟩ = some (.int .u64 a1_1) := (blk_cell BK126.out 1).trans rfl
        have hcz150_2 : wr.cell? ⟨gb126, 2, none⟩ = some (.int .u64 a1_2) := (blk_cell BK126.out 2).trans rfl
        have hcz150_3 : wr.cell? ⟨gb126, 3, none⟩ = some (.int .u64 a1_3) := (blk_cell BK126.out 3).trans rfl
        have hcz150_4 : wr.cell? ⟨gb126, 4, none⟩ = some (.string a1_4) := (blk_cell BK126.out 4).trans rfl
        have hfz150_0 := blk_frozen BK126.out 0
        have hfz150_1 := blk_frozen BK126.out 1
        have hfz150_2 := blk_frozen BK126.out 2
        have hfz150_3 := blk_frozen BK126.out 3
        have hfz150_4 := blk_frozen BK126.out 4
        go_wp2
        go_roundg k1
        case measure => have := HK1.out; omega
        case rel => exact ⟨(x6_1), (wrap64 (x7_1 + 1)), (by first | rfl | (simp; done) | (simp [*]; done)), H', ⟨by have := HK1.out; omega⟩, ⟨rx_ HO_6⟩, ⟨rx_ HO_126005⟩, ⟨rx_ HO_129003⟩, ⟨bx_ BK125⟩, ⟨bx_ BK126⟩, ⟨bx_ BK127⟩, ⟨bx_ BK128⟩, ⟨kx_ HK⟩, ⟨hx_ HB⟩⟩
      ·rw [if_neg c129] at H
       have c129b0 : decide (x7_1 < (l0_5.length : Int)) = false := decide_eq_false c129
       clear c129
       simp only [Option.some.injEq, Prod.mk.injEq] at H
       obtain ⟨rfl, rfl, rfl, rfl, rfl, rfl⟩ := H
       have hnb151 := NB128_125.out
       have hnc151 := NB125_128.out
       have hnb152 := NB128_126.out
       have hnc152 := NB126_128.out
       have hnb153 := NB128_127.out
       have hnc153 := NB127_128.out
       have hcz154_0 : wr.cell? ⟨gb128, 0, none⟩ = some (.int .u64 a0_2) := (blk_cell BK128.out 0).trans rfl
       have hcz154_1 : wr.cell? ⟨gb128, 1, none⟩ = some (.int .u64 a0_3) := (blk_cell BK128.out 1).trans rfl
       have hcz154_2 : wr.cell? ⟨gb128, 2, none⟩ = some (.string a0_4) := (blk_cell BK128.out 2).trans rfl
       have hcz154_3 : wr.cell? ⟨gb128, 3, none⟩ = some (.slice Ao115 l0_5.length co115) := (blk_cell BK128.out 3).trans rfl
       have hfz154_0 := blk_frozen BK128.out 0
       have hfz154_1 := blk_frozen BK128.out 1
       have hfz154_2 := blk_frozen BK128.out 2
       have hfz154_3 := blk_frozen BK128.out 3
       obtain ⟨Ao155, co155, eo155⟩ := Kd.R_slice HO_6.out
       subst eo155
       have hnb156 := NB125_126.out
       have hnc156 := NB126_125.out
       have hnb157 := NB125_127.out
       have hnc157 := NB127_125.out
       have hcz158_0 : wr.cell? ⟨gb125, 0, none⟩ = some (.int .u64 a0_0) := (blk_cell BK125.out 0).trans rfl
       have hcz158_1 : wr.cell? ⟨gb125, 1, none⟩ = some (.int .u64 a0_1) := (blk_cell BK125.out 1).trans rfl
       have hcz158_2 : wr.cell? ⟨gb125, 2, none⟩ = some (.int .u64 a0_2) := (blk_cell BK125.out 2).trans rfl
       have hcz158_3 : wr.cell? ⟨gb125, 3, none⟩ = some (.int .u64 a0_3) := (blk_cell BK125.out 3).trans rfl
       have hcz158_4 : wr.cell? ⟨gb125, 4, none⟩ = some (.string a0_4) := (blk_cell BK125.out 4).trans rfl
       have hcz158_5 : wr.cell? ⟨gb125, 5, none⟩ = some (.slice Ao115 l0_5.length co115) := (blk_cell BK125.out 5).trans rfl
       have hfz158_0 := blk_frozen BK125.out 0
       have hfz158_1 := blk_frozen BK125.out 1
       have hfz158_2 := blk_frozen BK125.out 2
       have hfz158_3 := blk_frozen BK125.out 3
       have hfz158_4 := blk_frozen BK125.out 4
       have hfz158_5 := blk_frozen BK125.out 5
       have hnb159 := NB127_126.out
       have hnc159 := NB126_127.out
       have hcz160_0 : wr.cell? ⟨gb127, 0, none⟩ = some (.int .u64 0) := (blk_cell BK127.out 0).trans rfl
       have hcz160_1 : wr.cell? ⟨gb127, 1, none⟩ = some (.int .u64 0) := (blk_cell BK127.out 1).trans rfl
       have hcz160_2 : wr.cell? ⟨gb127, 2, none⟩ = some (.int .u64 0) := (blk_cell BK127.out 2).trans rfl
       have hcz160_3 : wr.cell? ⟨gb127, 3, none⟩ = some (.int .u64 0) := (blk_cell BK127.out 3).trans rfl
       have hcz160_4 : wr.cell? ⟨gb127, 4, none⟩ = some (.string (⟨#[]⟩ : ByteArray)) := (blk_cell BK127.out 4).trans rfl
       have hcz160_5 : wr.cell? ⟨gb127, 5, none⟩ = some (.slice none 0 0) := (blk_cell BK127.out 5).trans rfl
       have hfz160_0 := blk_frozen BK127.out 0
       have hfz160_1 := blk_frozen BK127.out 1
       have hfz160_2 := blk_frozen BK127.out 2
       have hfz160_3 := blk_frozen BK127.out 3
       have hfz160_4 := blk_frozen BK127.out 4
       have hfz160_5 := blk_frozen BK127.out 5
       go_wp2
       refine bodyPost_ret (results_cell_row rfl _ _ gb127 30 #[.int .u64 a0_0, .int .u64 a0_1, .int .u64 a0_2, .int .u64 a0_3, .string a0_4, .slice Ao155 x6_1.length co155] (0, 0) _ rfl (by (with_reducible repeat (first | refine blk_drewN ?_ _ | refine blk_drew ?_ | refine blk_alloc ?_ _)); refine blk_put (cs := #[.int .u64 a0_0, .int .u64 a0_1, .int .u64 a0_2, .int .u64 a0_3, .string a0_4, .slice none 0 0]) ?_ 5 _ rfl; (with_reducible repeat (first | refine blk_drewN ?_ _ | refine blk_drew ?_ | refine blk_alloc ?_ _)); refine blk_put (cs := #[.int .u64 a0_0, .int .u64 a0_1, .int .u64 a0_2, .int .u64 a0_3, .string (⟨#[]⟩ : ByteArray), .slice none 0 0]) ?_ 4 _ rfl; (with_reducible repeat (first | refine blk_drewN ?_ _ | refine blk_drew ?_ | refine blk_alloc ?_ _)); refine blk_put (cs := #[.int .u64 a0_0, .int .u64 a0_1, .int .u64 a0_2, .int .u64 0, .string (⟨#[]⟩ : ByteArray), .slice none 0 0]) ?_ 3 _ rfl; (with_reducible repeat (first | refine blk_drewN ?_ _ | refine blk_drew ?_ | refine blk_alloc ?_ _)); refine blk_put (cs := #[.int .u64 a0_0, .int .u64 a0_1, .int .u64 0, .int .u64 0, .string (⟨#[]⟩ : ByteArray), .slice none 0 0]) ?_ 2 _ rfl; (with_reducible repeat (first | refine blk_drewN ?_ _ | refine blk_drew ?_ | refine blk_alloc ?_ _)); refine blk_put (cs := #[.int .u64 a0_0, .int .u64 0, .int .u64 0, .int .u64 0, .string (⟨#[]⟩ : ByteArray), .slice none 0 0]) ?_ 1 _ rfl; (with_reducible repeat (first | refine blk_drewN ?_ _ | refine blk_drew ?_ | refine blk_alloc ?_ _)); refine blk_put (cs := #[.int .u64 0, .int .u64 0, .int .u64 0, .int .u64 0, .string (⟨#[]⟩ : ByteArray), .slice none 0 0]) ?_ 0 _ rfl; (with_reducible repeat (first | refine blk_drewN ?_ _ | refine blk_drew ?_ | refine blk_alloc ?_ _)); refine blk_far ?_ NB127_125.out _; (with_reducible repeat (first | refine blk_drewN ?_ _ | refine blk_drew ?_ | refine blk_alloc ?_ _)); exact BK127.out) Try.underlying30 rfl (by kernel_rfl)) rfl ?_
       exact ⟨_, by first | rfl | (simp [errW_none, errW_some] <;> rfl) | (simp [*, errW_none, errW_some] <;> rfl), by (with_reducible repeat (first | apply Kd.R_alloc | apply Kd.R_drewN | apply Kd.R_drew)); exact Kd.R_mono (Kd.R_far (p := ⟨gb127, 5, none⟩) (Kd.R_far (p := ⟨gb127, 4, none⟩) (Kd.R_far (p := ⟨gb127, 3, none⟩) (Kd.R_far (p := ⟨gb127, 2, none⟩) (Kd.R_far (p := ⟨gb127, 1, none⟩) (Kd.R_far (p := ⟨gb127, 0, none⟩) (Kd.R_far (p := ⟨gb125, 5, none⟩) (Kd.R_types (Kd.R_types HO_6.out BK125.out (by decide)) BK127.out (by decide)) (fun _ hk => hk.1.2) (.slice Ao155 x6_1.length co155)) (fun _ hk => hk.2) (.int .u64 a0_0)) (fun _ hk => hk.2) (.int .u64 a0_1)) (fun _ hk => hk.2) (.int .u64 a0_2)) (fun _ hk => hk.2) (.int .u64 a0_3)) (fun _ hk => hk.2) (.string a0_4)) (fun _ hk => hk.2) (.slice Ao155 x6_1.length co155)) (fun _ hk => hk.1.1.1), hx_ HB, kx_ HK⟩
   ·rw [if_neg c114] at H
    have c114b0 : (a1_0 == 3) = false := beq_eq_false_iff_ne.mpr c114
    have c114b1 : (a1_0 != 3) = true := bne_iff_ne.mpr c114
    by_cases c161 : a1_0 = 4
    ·exact absurd c161 hk4
    ·rw [if_neg c161] at H
     have c161b0 : (a1_0 == 4) = false := beq_eq_false_iff_ne.mpr c161
     have c161b1 : (a1_0 != 4) = true := bne_iff_ne.mpr c161
     simp only [Option.some.injEq, Prod.mk.injEq] at H
     obtain ⟨rfl, rfl, rfl, rfl, rfl, rfl⟩ := H
     obtain ⟨Ao246, co246, eo246⟩ := Kd.R_slice HO0_5.out
     subst eo246
     go_enter Try.func44, Try.ntmps44
     go_wp2_with (first | ((with_reducible refine gate_dst (N := 2) rfl ?_); (try (refine gate_guard (by rfl) ?_; dsimp only)); refine box_event ?hg (N := 2) ?hd (cs := #[.int .u64 a0_0, .int .u64 a0_1, .int .u64 a0_2, .int .u64 a0_3, .string a0_4, .slice Ao246 l0_5.length co246]) (t := 30) ?hr ?_; (case hd => rfl); (case hg => rfl); (case hr => first | (go_simp; done) | (go_simp; rfl)); intro gb125 hg w247 hbox hb; have n0_ := am_ (Kd.R_below (rx_ HO0_5) hb); have n1_ := am_ (Kept.below (S := (fun k_ => P0_5_ k_)) (kx_ HK) hb); have n2_ := am_ (below_step (hy_ HB) hb); have n3_ := am_ (hbox); have n4_ := am_ ((by rw [hg]; exact (by first | exact HK.out.1 | exact (show Kept w _ (fun k_ => P0_5_ k_) from kx_ HK).1) : w.heap.size ≤ gb125)); have n5_ := am_ ((by rw [hg]; exact (below_size (hx_ HB)) : w0.heap.size ≤ gb125)); clear HO0_5 HK HB; have HO0_5 := n0_; have HK := n1_; have HB := n2_; have BK125 := n3_; have GW125 := n4_; have GE125 := n5_; clear n0_ n1_ n2_ n3_ n4_ n5_; clear hb hbox hg) | ((with_reducible refine gate_dst (N := 3) rfl ?_); (try (refine gate_guard (by rfl) ?_; dsimp only)); refine box_event ?hg (N := 3) ?hd (cs := #[.int .i64 a1_0, .int .u64 a1_1, .int .u64 a1_2, .int .u64 a1_3, .string a1_4]) (t := 39) ?hr ?_; (case hd => rfl); (case hg => rfl); (case hr => first | (go_simp; done) | (go_simp; rfl)); intro gb126 hg w248 hbox hb; have n0_ := am_ (Kd.R_below (rx_ HO0_5) hb); have n1_ := am_ (bb_ BK125 hb); have n2_ := am_ (Kept.below (S := (fun k_ => P0_5_ k_)) (kx_ HK) hb); have n3_ := am_ (below_step (hy_ HB) hb); have n4_ := am_ (hbox); have n5_ := am_ ((by rw [hg]; exact (by first | exact HK.out.1 | exact (show Kept w _ (fun k_ => P0_5_ k_) from kx_ HK).1) : w.heap.size ≤ gb126)); have n6_ := am_ ((by rw [hg]; exact (below_size (hx_ HB)) : w0.heap.size ≤ gb126)); have n7_ := am_ ((by rw [hg]; exact Nat.ne_of_lt (bl_ BK125) : gb125 ≠ gb126)); have n8_ := am_ ((by rw [hg]; exact Nat.ne_of_gt (bl_ BK125) : gb126 ≠ gb125)); clear HO0_5 BK125 HK HB; have HO0_5 := n0_; have BK125 := n1_; have HK := n2_; have HB := n3_; have BK126 := n4_; have GW126 := n5_; have GE126 := n6_; have NB125_126 := n7_; have NB126_125 := n8_; clear n0_ n1_ n2_ n3_ n4_ n5_ n6_ n7_ n8_; clear hb hbox hg) | ((with_reducible refine gate_dst (N := 4) rfl ?_); (try (refine gate_guard (by rfl) ?_; dsimp only)); refine box_event ?hg (N := 4) ?hd (cs := #[.int .u64 0, .int .u64 0, .int .u64 0, .int .u64 0, .string (⟨#[]⟩ : ByteArray), .slice none 0 0]) (t := 30) ?hr ?_; (case hd => rfl); (case hg => rfl); (case hr => first | (go_simp; done) | (go_simp; rfl)); intro gb127 hg w249 hbox hb; have n0_ := am_ (Kd.R_below (rx_ HO0_5) hb); have n1_ := am_ (bb_ BK125 hb); have n2_ := am_ (bb_ BK126 hb); have n3_ := am_ (Kept.below (S := (fun k_ => P0_5_ k_)) (kx_ HK) hb); have n4_ := am_ (below_step (hy_ HB) hb); have n5_ := am_ (hbox); have n6_ := am_ ((by rw [hg]; exact (by first | exact HK.out.1 | exact (show Kept w _ (fun k_ => P0_5_ k_) from kx_ HK).1) : w.heap.size ≤ gb127)); have n7_ := am_ ((by rw [hg]; exact (below_size (hx_ HB)) : w0.heap.size ≤ gb127)); have n8_ := am_ ((by rw [hg]; exact Nat.ne_of_lt (bl_ BK125) : gb125 ≠ gb127)); have n9_ := am_ ((by rw [hg]; exact Nat.ne_of_gt (bl_ BK125) : gb127 ≠ gb125)); have n10_ := am_ ((by rw [hg]; exact Nat.ne_of_lt (bl_ BK126) : gb126 ≠ gb127)); have n11_ := am_ ((by rw [hg]; exact Nat.ne_of_gt (bl_ BK126) : gb127 ≠ gb126)); clear HO0_5 BK125 BK126 HK HB; have HO0_5 := n0_; have BK125 := n1_; have BK126 := n2_; have HK := n3_; have HB := n4_; have BK127 := n5_; have GW127 := n6_; have GE127 := n7_; have NB125_127 := n8_; have NB127_125 := n9_; have NB126_127 := n10_; have NB127_126 := n11_; clear n0_ n1_ n2_ n3_ n4_ n5_ n6_ n7_ n8_ n9_ n10_ n11_; clear hb hbox hg; have hnb250 := NB125_126.out; have hnc250 := NB126_125.out; have hnb251 := NB125_127.out; have hnc251 := NB127_125.out; have hcz252_0 : w249.cell? ⟨gb125, 0, none⟩ = some (.int .u64 a0_0) := (blk_cell BK125.out 0).trans rfl; have hcz252_1 : w249.cell? ⟨gb125, 1, none⟩ = some (.int .u64 a0_1) := (blk_cell BK125.out 1).trans rfl; have hcz252_2 : w249.cell? ⟨gb125, 2, none⟩ = some (.int .u64 a0_2) := (blk_cell BK125.out 2).trans rfl; have hcz252_3 : w249.cell? ⟨gb125, 3, none⟩ = some (.int .u64 a0_3) := (blk_cell BK125.out 3).trans rfl; have hcz252_4 : w249.cell? ⟨gb125, 4, none⟩ = some (.string a0_4) := (blk_cell BK125.out 4).trans rfl; have hcz252_5 : w249.cell? ⟨gb125, 5, none⟩ = some (.slice Ao246 l0_5.length co246) := (blk_cell BK125.out 5).trans rfl; have hfz252_0 := blk_frozen BK125.out 0; have hfz252_1 := blk_frozen BK125.out 1; have hfz252_2 := blk_frozen BK125.out 2; have hfz252_3 := blk_frozen BK125.out 3; have hfz252_4 := blk_frozen BK125.out 4; have hfz252_5 := blk_frozen BK125.out 5) | ((with_reducible refine gate_dst (N := 5) rfl ?_); (try (refine gate_guard (by rfl) ?_; dsimp only)); refine box_event ?hg (N := 5) ?hd (cs := #[.int .u64 0, .int .u64 0, .string (⟨#[]⟩ : ByteArray), .slice none 0 0]) (t := 28) ?hr ?_; (case hd => rfl); (case hg => rfl); (case hr => first | (go_simp; done) | (go_simp; rfl)); intro gb128 hg w253 hbox hb; have n0_ := am_ (Kd.R_below (rx_ HO0_5) hb); have n1_ := am_ (bb_ BK125 hb); have n2_ := am_ (bb_ BK126 hb); have n3_ := am_ (bb_ BK127 hb); have n4_ := am_ (Kept.below (S := (fun k_ => P0_5_ k_)) (kx_ HK) hb); have n5_ := am_ (below_step (hy_ HB) hb); have n6_ := am_ (hbox); have n7_ := am_ ((by rw [hg]; exact (by first | exact HK.out.1 | exact (show Kept w _ (fun k_ => P0_5_ k_) from kx_ HK).1) : w.heap.size ≤ gb128)); have n8_ := am_ ((by rw [hg]; exact (below_size (hx_ HB)) : w0.heap.size ≤ gb128)); have n9_ := am_ ((by rw [hg]; exact Nat.ne_of_lt (bl_ BK125) : gb125 ≠ gb128)); have n10_ := am_ ((by rw [hg]; exact Nat.ne_of_gt (bl_ BK125) : gb128 ≠ gb125)); have n11_ := am_ ((by rw [hg]; exact Nat.ne_of_lt (bl_ BK126) : gb126 ≠ gb128)); have n12_ := am_ ((by rw [hg]; exact Nat.ne_of_gt (bl_ BK126) : gb128 ≠ gb126)); have n13_ := am_ ((by rw [hg]; exact Nat.ne_of_lt (bl_ BK127) : gb127 ≠ gb128)); have n14_ := am_ ((by rw [hg]; exact Nat.ne_of_gt (bl_ BK127) : gb128 ≠ gb127)); clear HO0_5 BK125 BK126 BK127 HK HB; have HO0_5 := n0_; have BK125 := n1_; have BK126 := n2_; have BK127 := n3_; have HK := n4_; have HB := n5_; have BK128 := n6_; have GW128 := n7_; have GE128 := n8_; have NB125_128 := n9_; have NB128_125 := n10_; have NB126_128 := n11_; have NB128_126 := n12_; have NB127_128 := n13_; have NB128_127 := n14_; clear n0_ n1_ n2_ n3_ n4_ n5_ n6_ n7_ n8_ n9_ n10_ n11_ n12_ n13_ n14_; clear hb hbox hg; have hnb254 := NB128_125.out; have hnc254 := NB125_128.out; have hnb255 := NB128_126.out; have hnc255 := NB126_128.out; have hnb256 := NB128_127.out; have hnc256 := NB127_128.out; have hcz257_0 : w253.cell? ⟨gb128, 0, none⟩ = some (.int .u64 0) := (blk_cell BK128.out 0).trans rfl; have hcz257_1 : w253.cell? ⟨gb128, 1, none⟩ = some (.int .u64 0) := (blk_cell BK128.out 1).trans rfl; have hcz257_2 : w253.cell? ⟨gb128, 2, none⟩ = some (.string (⟨#[]⟩ : ByteArray)) := (blk_cell BK128.out 2).trans rfl; have hcz257_3 : w253.cell? ⟨gb128, 3, none⟩ = some (.slice none 0 0) := (blk_cell BK128.out 3).trans rfl; have hfz257_0 := blk_frozen BK128.out 0; have hfz257_1 := blk_frozen BK128.out 1; have hfz257_2 := blk_frozen BK128.out 2; have hfz257_3 := blk_frozen BK128.out 3; have hnb258 := NB126_127.out; have hnc258 := NB127_126.out; have hcz259_0 : w253.cell? ⟨gb126, 0, none⟩ = some (.int .i64 a1_0) := (blk_cell BK126.out 0).trans rfl; have hcz259_1 : w253.cell? ⟨gb126, 1, none⟩ = some (.int .u64 a1_1) := (blk_cell BK126.out 1).trans rfl; have hcz259_2 : w253.cell? ⟨gb126, 2, none⟩ = some (.int .u64 a1_2) := (blk_cell BK126.out 2).trans rfl; have hcz259_3 : w253.cell? ⟨gb126, 3, none⟩ = some (.int .u64 a1_3) := (blk_cell BK126.out 3).trans rfl; have hcz259_4 : w253.cell? ⟨gb126, 4, none⟩ = some (.string a1_4) := (blk_cell BK126.out 4).trans rfl; have hfz259_0 := blk_frozen BK126.out 0; have hfz259_1 := blk_frozen BK126.out 1; have hfz259_2 := blk_frozen BK126.out 2; have hfz259_3 := blk_frozen BK126.out 3; have hfz259_4 := blk_frozen BK126.out 4; have hcz260_0 : w253.cell? ⟨gb125, 0, none⟩ = some (.int .u64 a0_0) := (blk_cell BK125.out 0).trans rfl; have hcz260_1 : w253.cell? ⟨gb125, 1, none⟩ = some (.int .u64 a0_1) := (blk_cell BK125.out 1).trans rfl; have hcz260_2 : w253.cell? ⟨gb125, 2, none⟩ = some (.int .u64 a0_2) := (blk_cell BK125.out 2).trans rfl; have hcz260_3 : w253.cell? ⟨gb125, 3, none⟩ = some (.int .u64 a0_3) := (blk_cell BK125.out 3).trans rfl; have hcz260_4 : w253.cell? ⟨gb125, 4, none⟩ = some (.string a0_4) := (blk_cell BK125.out 4).trans rfl; have hcz260_5 : w253.cell? ⟨gb125, 5, none⟩ = some (.slice Ao246 l0_5.length co246) := (blk_cell BK125.out 5).trans rfl; have hfz260_0 := blk_frozen BK125.out 0; have hfz260_1 := blk_frozen BK125.out 1; have hfz260_2 := blk_frozen BK125.out 2; have hfz260_3 := blk_frozen BK125.out 3; have hfz260_4 := blk_frozen BK125.out 4; have hfz260_5 := blk_frozen BK125.out 5; have hcz261_0 : w253.cell? ⟨gb127, 0, none⟩ = some (.int .u64 0) := (blk_cell BK127.out 0).trans rfl; have hcz261_1 : w253.cell? ⟨gb127, 1, none⟩ = some (.int .u64 0) := (blk_cell BK127.out 1).trans rfl; have hcz261_2 : w253.cell? ⟨gb127, 2, none⟩ = some (.int .u64 0) := (blk_cell BK127.out 2).trans rfl; have hcz261_3 : w253.cell? ⟨gb127, 3, none⟩ = some (.int .u64 0) := (blk_cell BK127.out 3).trans rfl; have hcz261_4 : w253.cell? ⟨gb127, 4, none⟩ = some (.string (⟨#[]⟩ : ByteArray)) := (blk_cell BK127.out 4).trans rfl; have hcz261_5 : w253.cell? ⟨gb127, 5, none⟩ = some (.slice none 0 0) := (blk_cell BK127.out 5).trans rfl; have hfz261_0 := blk_frozen BK127.out 0; have hfz261_1 := blk_frozen BK127.out 1; have hfz261_2 := blk_frozen BK127.out 2; have hfz261_3 := blk_frozen BK127.out 3; have hfz261_4 := blk_frozen BK127.out 4; have hfz261_5 := blk_frozen BK127.out 5))
     refine bodyPost_ret (results_cell_row rfl _ _ gb127 30 #[.int .u64 a0_0, .int .u64 a0_1, .int .u64 a0_2, .int .u64 a0_3, .string a0_4, .slice Ao246 l0_5.length co246] (0, 0) _ rfl (by (with_reducible repeat (first | refine blk_drewN ?_ _ | refine blk_drew ?_ | refine blk_alloc ?_ _)); refine blk_put (cs := #[.int .u64 a0_0, .int .u64 a0_1, .int .u64 a0_2, .int .u64 a0_3, .string a0_4, .slice none 0 0]) ?_ 5 _ rfl; (with_reducible repeat (first | refine blk_drewN ?_ _ | refine blk_drew ?_ | refine blk_alloc ?_ _)); refine blk_put (cs := #[.int .u64 a0_0, .int .u64 a0_1, .int .u64 a0_2, .int .u64 a0_3, .string (⟨#[]⟩ : ByteArray), .slice none 0 0]) ?_ 4 _ rfl; (with_reducible repeat (first | refine blk_drewN ?_ _ | refine blk_drew ?_ | refine blk_alloc ?_ _)); refine blk_put (cs := #[.int .u64 a0_0, .int .u64 a0_1, .int .u64 a0_2, .int .u64 0, .string (⟨#[]⟩ : ByteArray), .slice none 0 0]) ?_ 3 _ rfl; (with_reducible repeat (first | refine blk_drewN ?_ _ | refine blk_drew ?_ | refine blk_alloc ?_ _)); refine blk_put (cs := #[.int .u64 a0_0, .int .u64 a0_1, .int .u64 0, .int .u64 0, .string (⟨#[]⟩ : ByteArray), .slice none 0 0]) ?_ 2 _ rfl; (with_reducible repeat (first | refine blk_drewN ?_ _ | refine blk_drew ?_ | refine blk_alloc ?_ _)); refine blk_put (cs := #[.int .u64 a0_0, .int .u64 0, .int .u64 0, .int .u64 0, .string (⟨#[]⟩ : ByteArray), .slice none 0 0]) ?_ 1 _ rfl; (with_reducible repeat (first | refine blk_drewN ?_ _ | refine blk_drew ?_ | refine blk_alloc ?_ _)); refine blk_put (cs := #[.int .u64 0, .int .u64 0, .int .u64 0, .int .u64 0, .string (⟨#[]⟩ : ByteArray), .slice none 0 0]) ?_ 0 _ rfl; (with_reducible repeat (first | refine blk_drewN ?_ _ | refine blk_drew ?_ | refine blk_alloc ?_ _)); refine blk_far ?_ NB127_128.out _; (with_reducible repeat (first | refine blk_drewN ?_ _ | refine blk_drew ?_ | refine blk_alloc ?_ _)); refine blk_far ?_ NB127_128.out _; (with_reducible repeat (first | refine blk_drewN ?_ _ | refine blk_drew ?_ | refine blk_alloc ?_ _)); refine blk_far ?_ NB127_128.out _; (with_reducible repeat (first | refine blk_drewN ?_ _ | refine blk_drew ?_ | refine blk_alloc ?_ _)); refine blk_far ?_ NB127_128.out _; (with_reducible repeat (first | refine blk_drewN ?_ _ | refine blk_drew ?_ | refine blk_alloc ?_ _)); exact BK127.out) Try.underlying30 rfl (by kernel_rfl)) rfl ?_
     exact ⟨_, by first | rfl | (simp [errW_none, errW_some] <;> rfl) | (simp [*, errW_none, errW_some] <;> rfl), by (with_reducible repeat (first | apply Kd.R_alloc | apply Kd.R_drewN | apply Kd.R_drew)); exact Kd.R_mono (Kd.R_far (p := ⟨gb127, 5, none⟩) (Kd.R_far (p := ⟨gb127, 4, none⟩) (Kd.R_far (p := ⟨gb127, 3, none⟩) (Kd.R_far (p := ⟨gb127, 2, none⟩) (Kd.R_far (p := ⟨gb127, 1, none⟩) (Kd.R_far (p := ⟨gb127, 0, none⟩) (Kd.R_far (p := ⟨gb128, 3, none⟩) (Kd.R_far (p := ⟨gb128, 2, none⟩) (Kd.R_far (p := ⟨gb128, 1, none⟩) (Kd.R_far (p := ⟨gb128, 0, none⟩) (Kd.R_types (Kd.R_types HO0_5.out BK128.out (by decide)) BK127.out (by decide)) (fun _ hk => hk.1.2) (.int .u64 a0_2)) (fun _ hk => hk.1.2) (.int .u64 a0_3)) (fun _ hk => hk.1.2) (.string a0_4)) (fun _ hk => hk.1.2) (.slice Ao246 l0_5.length co246)) (fun _ hk => hk.2) (.int .u64 a0_0)) (fun _ hk => hk.2) (.int .u64 a0_1)) (fun _ hk => hk.2) (.int .u64 a0_2)) (fun _ hk => hk.2) (.int .u64 a0_3)) (fun _ hk => hk.2) (.string a0_4)) (fun _ hk => hk.2) (.slice Ao246 l0_5.length co246)) (fun _ hk => hk.1.1), hx_ HB, kx_ HK⟩
end Go.Proofs.Ytfjhlcbpogihmaa.Pr
