/- Several texts of one depth, laid together. Conditions: none. -/
import Derived.Test.YtfjhlcbpogihmaaKPostBack1
import Derived.Test.YtfjhlcbpogihmaaGPostBackPr40
import Derived.Test.YtfjhlcbpogihmaaGPostBackPr18
namespace Go.Proofs.Ytfjhlcbpogihmaa.Pr
open Go.RowKit Go.Proofs.YtfjhlcbpogihmaaW.PrintWords Go.Proofs.YtfjhlcbpogihmaaW.PrintLast Go.Proofs.YtfjhlcbpogihmaaW.PrintMore
attribute [local go_sem] max2_int max_four
set_option linter.unusedVariables false
set_option linter.unusedSimpArgs false
/-! ### ferruleref17_Same: function 35 -/
def ferruleref17_Same.f (k : Nat) (a0_0 : Int) (a0_1 : Int) (a0_2 : Int) (a0_3 : Int) (a0_4 : Int) (a0_5 : Int) (a0_6 : Int) (a0_7 : Bool) (l0_8 : List (S75)) (a0_9 : ByteArray) (a1_0 : Int) (a1_1 : Int) (a1_2 : Int) (a1_3 : Int) (a1_4 : Int) (a1_5 : Int) (a1_6 : Int) (a1_7 : Bool) (l1_8 : List (S75)) (a1_9 : ByteArray) : Option (Bool) := (ferruleref08_SameMessage.f k a0_0 a0_1 a0_2 a0_3 a0_4 a0_5 a0_6 a0_7 l0_8 a0_9 a1_0 a1_1 a1_2 a1_3 a1_4 a1_5 a1_6 a1_7 l1_8 a1_9).bind fun t429 => (some t429)
set_option maxHeartbeats 8000000 in
set_option maxRecDepth 100000 in
theorem ferruleref17_Same.calls (k : Nat) (a0_0 : Int) (a0_1 : Int) (a0_2 : Int) (a0_3 : Int) (a0_4 : Int) (a0_5 : Int) (a0_6 : Int) (a0_7 : Bool) (A0_8 : Option Addr) (c0_8 : Nat) (l0_8 : List (S75)) (a0_9 : ByteArray) (a1_0 : Int) (a1_1 : Int) (a1_2 : Int) (a1_3 : Int) (a1_4 : Int) (a1_5 : Int) (a1_6 : Int) (a1_7 : Bool) (A1_8 : Option Addr) (c1_8 : Nat) (l1_8 : List (S75)) (a1_9 : ByteArray) (r : Bool) (w : World) (hr0_8 : Kd.C k75 w A0_8 l0_8.length l0_8) (hc0_8 : l0_8.length ≤ c0_8) (hr1_8 : Kd.C k75 w A1_8 l1_8.length l1_8) (hc1_8 : l1_8.length ≤ c1_8) (h : ferruleref17_Same.f k a0_0 a0_1 a0_2 a0_3 a0_4 a0_5 a0_6 a0_7 l0_8 a0_9 a1_0 a1_1 a1_2 a1_3 a1_4 a1_5 a1_6 a1_7 l1_8 a1_9 = some r) :
    Calls Try.prog 35 #[.agg #[.int .i64 a0_0, .int .u64 a0_1, .int .u64 a0_2, .int .u64 a0_3, .int .u64 a0_4, .int .u64 a0_5, .int .u64 a0_6, .bool a0_7, .slice A0_8 l0_8.length c0_8, .string a0_9], .agg #[.int .i64 a1_0, .int .u64 a1_1, .int .u64 a1_2, .int .u64 a1_3, .int .u64 a1_4, .int .u64 a1_5, .int .u64 a1_6, .bool a1_7, .slice A1_8 l1_8.length c1_8, .string a1_9]] w fun e w' => e = .returned (.bool r) ∧ Below w.heap.size w w' := by
  have hu57 := Try.underlying57
  have HR0_8 := Aside0.mk hr0_8
  have HC0_8 := Aside0.mk hc0_8
  clear hr0_8 hc0_8
  have HR1_8 := Aside0.mk hr1_8
  have HC1_8 := Aside0.mk hc1_8
  clear hr1_8 hc1_8
  have HB := Aside0.mk (Below.refl w.heap.size w)
  have H : ((ferruleref08_SameMessage.f k a0_0 a0_1 a0_2 a0_3 a0_4 a0_5 a0_6 a0_7 l0_8 a0_9 a1_0 a1_1 a1_2 a1_3 a1_4 a1_5 a1_6 a1_7 l1_8 a1_9).bind fun t429 => (some t429)) = some r := h
  clear h
  replace H := Option.bind_eq_some_iff.mp H
  obtain ⟨t429, A30, H⟩ := H
  replace H : (some t429) = some r := H
  have A3 := Aside0.mk A30
  clear A30
  obtain rfl := Option.some.inj H
  go_enter Try.func35, Try.ntmps35
  go_wp2_with (first | ((with_reducible refine gate_dst (N := 2) rfl ?_); refine box_event ?hg (N := 2) ?hd (cs := #[.int .i64 a0_0, .int .u64 a0_1, .int .u64 a0_2, .int .u64 a0_3, .int .u64 a0_4, .int .u64 a0_5, .int .u64 a0_6, .bool a0_7, .slice A0_8 l0_8.length c0_8, .string a0_9]) (t := 57) ?hr ?_; (case hd => rfl); (case hg => rfl); (case hr => first | (go_simp; done) | (go_simp; rfl)); intro gb427 hg w4 hbox hb; have n0_ := Aside0.mk (below_step (by repeat (first | (with_reducible first | exact HB.out | apply below_alloc | apply pw_below_drewN | apply below_drew1) | exact HB.out | exact Below.refl _ _)) hb); have n1_ := Aside0.mk (hbox); have n2_ := Aside0.mk ((by rw [hg]; exact (below_size (by repeat (first | (with_reducible first | exact HB.out | apply below_alloc | apply pw_below_drewN | apply below_drew1) | exact HB.out))) : w.heap.size ≤ gb427)); have n3_ := Aside0.mk ((by rw [hg]; exact (below_size (by repeat (first | (with_reducible first | exact HB.out | apply below_alloc | apply pw_below_drewN | apply below_drew1) | exact HB.out))) : w.heap.size ≤ gb427)); clear HB; have HB := n0_; have BK427 := n1_; have GW427 := n2_; have GE427 := n3_; clear n0_ n1_ n2_ n3_; clear hb hbox hg) | ((with_reducible refine gate_dst (N := 3) rfl ?_); refine box_event ?hg (N := 3) ?hd (cs := #[.int .i64 a1_0, .int .u64 a1_1, .int .u64 a1_2, .int .u64 a1_3, .int .u64 a1_4, .int .u64 a1_5, .int .u64 a1_6, .bool a1_7, .slice A1_8 l1_8.length c1_8, .string a1_9]) (t := 57) ?hr ?_; (case hd => rfl); (case hg => rfl); (case hr => first | (go_simp; done) | (go_simp; rfl)); intro gb428 hg w5 hbox hb; have n0_ := Aside0.mk (blk_below (g := gb427) (o := .cells #[.int .i64 a0_0, .int .u64 a0_1, .int .u64 a0_2, .int .u64 a0_3, .int .u64 a0_4, .int .u64 a0_5, .int .u64 a0_6, .bool a0_7, .slice A0_8 l0_8.length c0_8, .string a0_9] 57 (0, 0)) (by (with_reducible repeat (first | refine blk_drewN ?_ _ | refine blk_drew ?_ | refine blk_alloc ?_ _)); exact BK427.out) hb); have n1_ := Aside0.mk (below_step (by repeat (first | (with_reducible first | exact HB.out | apply below_alloc | apply pw_below_drewN | apply below_drew1 | refine below_set ?_ GE427.out) | exact HB.out | exact Below.refl _ _)) hb); have n2_ := Aside0.mk (hbox); have n3_ := Aside0.mk ((by rw [hg]; exact (below_size (by repeat (first | (with_reducible first | exact HB.out | apply below_alloc | apply pw_below_drewN | apply below_drew1 | refine below_set ?_ GE427.out) | exact HB.out))) : w.heap.size ≤ gb428)); have n4_ := Aside0.mk ((by rw [hg]; exact (below_size (by repeat (first | (with_reducible first | exact HB.out | apply below_alloc | apply pw_below_drewN | apply below_drew1 | refine below_set ?_ GE427.out) | exact HB.out))) : w.heap.size ≤ gb428)); have n5_ := Aside0.mk ((by rw [hg]; exact Nat.ne_of_lt (blk_lt (g := gb427) (o := .cells #[.int .i64 a0_0, .int .u64 a0_1, .int .u64 a0_2, .int .u64 a0_3, .int .u64 a0_4, .int .u64 a0_5, .int .u64 a0_6, .bool a0_7, .slice A0_8 l0_8.length c0_8, .string a0_9] 57 (0, 0)) (by (with_reducible repeat (first | refine blk_drewN ?_ _ | refine blk_drew ?_ | refine blk_alloc ?_ _)); exact BK427.out)) : gb427 ≠ gb428)); have n6_ := Aside0.mk ((by rw [hg]; exact Nat.ne_of_gt (blk_lt (g := gb427) (o := .cells #[.int .i64 a0_0, .int .u64 a0_1, .int .u64 a0_2, .int .u64 a0_3, .int .u64 a0_4, .int .u64 a0_5, .int .u64 a0_6, .bool a0_7, .slice A0_8 l0_8.length c0_8, .string a0_9] 57 (0, 0)) (by (with_reducible repeat (first | refine blk_drewN ?_ _ | refine blk_drew ?_ | refine blk_alloc ?_ _)); exact BK427.out)) : gb428 ≠ gb427)); clear BK427; clear HB; have BK427 := n0_; have HB := n1_; have BK428 := n2_; have GW428 := n3_; have GE428 := n4_; have NB427_428 := n5_; have NB428_427 := n6_; clear n0_ n1_ n2_ n3_ n4_ n5_ n6_; clear hb hbox hg; have hnb6 := NB427_428.out; have hnc6 := NB428_427.out; have hcz7_0 : w5.cell? ⟨gb427, 0, none⟩ = some (.int .i64 a0_0) := (blk_cell BK427.out 0).trans rfl; have hcz7_1 : w5.cell? ⟨gb427, 1, none⟩ = some (.int .u64 a0_1) := (blk_cell BK427.out 1).trans rfl; have hcz7_2 : w5.cell? ⟨gb427, 2, none⟩ = some (.int .u64 a0_2) := (blk_cell BK427.out 2).trans rfl; have hcz7_3 : w5.cell? ⟨gb427, 3, none⟩ = some (.int .u64 a0_3) := (blk_cell BK427.out 3).trans rfl; have hcz7_4 : w5.cell? ⟨gb427, 4, none⟩ = some (.int .u64 a0_4) := (blk_cell BK427.out 4).trans rfl; have hcz7_5 : w5.cell? ⟨gb427, 5, none⟩ = some (.int .u64 a0_5) := (blk_cell BK427.out 5).trans rfl; have hcz7_6 : w5.cell? ⟨gb427, 6, none⟩ = some (.int .u64 a0_6) := (blk_cell BK427.out 6).trans rfl; have hcz7_7 : w5.cell? ⟨gb427, 7, none⟩ = some (.bool a0_7) := (blk_cell BK427.out 7).trans rfl; have hcz7_8 : w5.cell? ⟨gb427, 8, none⟩ = some (.slice A0_8 l0_8.length c0_8) := (blk_cell BK427.out 8).trans rfl; have hcz7_9 : w5.cell? ⟨gb427, 9, none⟩ = some (.string a0_9) := (blk_cell BK427.out 9).trans rfl; have hfz7_0 := blk_frozen BK427.out 0; have hfz7_1 := blk_frozen BK427.out 1; have hfz7_2 := blk_frozen BK427.out 2; have hfz7_3 := blk_frozen BK427.out 3; have hfz7_4 := blk_frozen BK427.out 4; have hfz7_5 := blk_frozen BK427.out 5; have hfz7_6 := blk_frozen BK427.out 6; have hfz7_7 := blk_frozen BK427.out 7; have hfz7_8 := blk_frozen BK427.out 8; have hfz7_9 := blk_frozen BK427.out 9; have hcz8_0 : w5.cell? ⟨gb428, 0, none⟩ = some (.int .i64 a1_0) := (blk_cell BK428.out 0).trans rfl; have hcz8_1 : w5.cell? ⟨gb428, 1, none⟩ = some (.int .u64 a1_1) := (blk_cell BK428.out 1).trans rfl; have hcz8_2 : w5.cell? ⟨gb428, 2, none⟩ = some (.int .u64 a1_2) := (blk_cell BK428.out 2).trans rfl; have hcz8_3 : w5.cell? ⟨gb428, 3, none⟩ = some (.int .u64 a1_3) := (blk_cell BK428.out 3).trans rfl; have hcz8_4 : w5.cell? ⟨gb428, 4, none⟩ = some (.int .u64 a1_4) := (blk_cell BK428.out 4).trans rfl; have hcz8_5 : w5.cell? ⟨gb428, 5, none⟩ = some (.int .u64 a1_5) := (blk_cell BK428.out 5).trans rfl; have hcz8_6 : w5.cell? ⟨gb428, 6, none⟩ = some (.int .u64 a1_6) := (blk_cell BK428.out 6).trans rfl; have hcz8_7 : w5.cell? ⟨gb428, 7, none⟩ = some (.bool a1_7) := (blk_cell BK428.out 7).trans rfl; have hcz8_8 : w5.cell? ⟨gb428, 8, none⟩ = some (.slice A1_8 l1_8.length c1_8) := (blk_cell BK428.out 8).trans rfl; have hcz8_9 : w5.cell? ⟨gb428, 9, none⟩ = some (.string a1_9) := (blk_cell BK428.out 9).trans rfl; have hfz8_0 := blk_frozen BK428.out 0; have hfz8_1 := blk_frozen BK428.out 1; have hfz8_2 := blk_frozen BK428.out 2; have hfz8_3 := blk_frozen BK428.out 3; have hfz8_4 := blk_frozen BK428.out 4; have hfz8_5 := blk_frozen BK428.out 5; have hfz8_6 := blk_frozen BK428.out 6; have hfz8_7 := blk_frozen BK428.out 7; have hfz8_8 := blk_frozen BK428.out 8; have hfz8_9 := blk_frozen BK428.out 9) | ((with_reducible refine gate_callee (f := 67) rfl ?_); refine goesL_ (some 7) rfl rfl Try.func67 (by kernel_rfl) rfl #[.agg #[.int .i64 a0_0, .int .u64 a0_1, .int .u64 a0_2, .int .u64 a0_3, .int .u64 a0_4, .int .u64 a0_5, .int .u64 a0_6, .bool a0_7, .slice A0_8 l0_8.length c0_8, .string a0_9], .agg #[.int .i64 a1_0, .int .u64 a1_1, .int .u64 a1_2, .int .u64 a1_3, .int .u64 a1_4, .int .u64 a1_5, .int .u64 a1_6, .bool a1_7, .slice A1_8 l1_8.length c1_8, .string a1_9]] rfl (by (try simp only [List.map_toArray, List.map_cons, List.map_nil]); first | done | rfl | (simp only [List.length_drop, List.length_take]; rfl)) ?_; (with_reducible refine (ferruleref08_SameMessage.calls k a0_0 a0_1 a0_2 a0_3 a0_4 a0_5 a0_6 a0_7 _ _ l0_8 a0_9 a1_0 a1_1 a1_2 a1_3 a1_4 a1_5 a1_6 a1_7 _ _ l1_8 a1_9 t429 _ ?side1 ?side2 ?side3 ?side4 A3.out).mono ?_); (case side1 => repeat (first | exact (Kd.C_below HR0_8.out HB.out) | (with_reducible refine Kd.C_alloc ?_ _) | (with_reducible refine Kd.C_drewN ?_ _) | (with_reducible refine Kd.C_drew ?_))); (case side2 => exact HC0_8.out); (case side3 => repeat (first | exact (Kd.C_below HR1_8.out HB.out) | (with_reducible refine Kd.C_alloc ?_ _) | (with_reducible refine Kd.C_drewN ?_ _) | (with_reducible refine Kd.C_drew ?_))); (case side4 => exact HC1_8.out); rintro e w9 ⟨rfl, hb⟩; refine ⟨_, rfl, ?_⟩; have n0_ := Aside0.mk (blk_below (g := gb427) (o := .cells #[.int .i64 a0_0, .int .u64 a0_1, .int .u64 a0_2, .int .u64 a0_3, .int .u64 a0_4, .int .u64 a0_5, .int .u64 a0_6, .bool a0_7, .slice A0_8 l0_8.length c0_8, .string a0_9] 57 (0, 0)) (by (with_reducible repeat (first | refine blk_drewN ?_ _ | refine blk_drew ?_ | refine blk_alloc ?_ _)); exact BK427.out) hb); have n1_ := Aside0.mk (blk_below (g := gb428) (o := .cells #[.int .i64 a1_0, .int .u64 a1_1, .int .u64 a1_2, .int .u64 a1_3, .int .u64 a1_4, .int .u64 a1_5, .int .u64 a1_6, .bool a1_7, .slice A1_8 l1_8.length c1_8, .string a1_9] 57 (0, 0)) (by (with_reducible repeat (first | refine blk_drewN ?_ _ | refine blk_drew ?_ | refine blk_alloc ?_ _)); exact BK428.out) hb); have n2_ := Aside0.mk (below_step (by repeat (first | (with_reducible first | exact HB.out | apply below_alloc | apply pw_below_drewN | apply below_drew1 | refine below_set ?_ GE427.out | refine below_set ?_ GE428.out) | exact HB.out | exact Below.refl _ _)) hb); clear BK427; clear BK428; clear HB; have BK427 := n0_; have BK428 := n1_; have HB := n2_; clear n0_ n1_ n2_; (try clear hb); (try clear hb2); (try clear hk); (try clear hi)))
  go_ret
  exact ⟨by first | rfl | (simp [errW_none, errW_some] <;> rfl) | (simp [*, errW_none, errW_some] <;> rfl), by repeat (first | (with_reducible first | exact HB.out | apply below_alloc | apply pw_below_drewN | apply below_drew1 | refine below_set ?_ GE427.out | refine below_set ?_ GE428.out) | exact HB.out)⟩
end Go.Proofs.Ytfjhlcbpogihmaa.Pr
namespace Go.Proofs.Ytfjhlcbpogihmaa.Pr
open Go.RowKit Go.Proofs.YtfjhlcbpogihmaaW.PrintWords Go.Proofs.YtfjhlcbpogihmaaW.PrintLast Go.Proofs.YtfjhlcbpogihmaaW.PrintMore
set_option linter.unusedVariables false
set_option linter.unusedSimpArgs false
theorem wrap64_in' {x : Int} (h0 : -9223372036854775808 ≤ x) (h1 : x < 9223372036854775808) : wrap64 x = x := by
  simp [wrap64]
  omega
theorem ext_all {a : ByteArray} {n : Nat} (h : a.size ≤ n) : a.extract 0 n = a := by
  ext1
  simp only [ByteArray.data_extract]
  exact Array.extract_eq_self_of_le h
theorem stake (K : Nat) (hd x : ByteArray) (n : Nat) (hT : pack_TakeNum.f K (hd ++ x) = some ((n : Int), x, 0)) (hn : n ≤ 65536) (ha : (hd ++ x).size ≤ 4611686018427387904) :
    seal_Take.f K (hd ++ x) = if x.size < n + 4 then some ((⟨#[]⟩ : ByteArray), (⟨#[]⟩ : ByteArray), 2) else if (tailB (sumI (hd ++ x.extract 0 n))).toList = (x.extract n (n + 4)).toList then some (x.extract 0 n, x.extract (n + 4) x.size, 0) else some ((⟨#[]⟩ : ByteArray), (⟨#[]⟩ : ByteArray), 3) := by
  have hsz : (hd ++ x).size = hd.size + x.size := ByteArray.size_append
  unfold seal_Take.f
  rw [hT]
  simp only [Option.bind_some, if_true]
  rw [if_neg (by omega), wrap_in (x := (n : Int) + 4) (by omega) (by omega), wrap_in (x := (x.size : Int)) (by omega) (by omega)]
  by_cases c : x.size < n + 4
  · rw [if_pos c, if_pos (by omega)]
  · rw [if_neg c, if_neg (by omega)]
    have e1 : ((n : Int) + 4).toNat = n + 4 := by omega
    have e2 : (x.extract (n + 4) x.size).size = x.size - (n + 4) := by rw [ByteArray.size_extract]; omega
    rw [e1, e2]
    have e3 : wrap64 (wrap64 (((hd ++ x).size : Int) - ((x.size - (n + 4) : Nat) : Int)) - 4) = ((hd.size + n : Nat) : Int) := by
      rw [wrap64_in' (x := ((hd ++ x).size : Int) - _) (by omega) (by omega), wrap64_in' (by omega) (by omega)]
      omega
    rw [e3, Int.toNat_natCast, Int.toNat_natCast]
    have e4 : (hd ++ x).extract 0 (hd.size + n) = hd ++ x.extract 0 n := by
      rw [ByteArray.extract_append, ext_all (by omega)]
      rw [show 0 - hd.size = 0 from by omega, show hd.size + n - hd.size = n from by omega]
    rw [e4, if_pos (by omega), if_pos (by omega), if_pos (by omega), if_pos (by omega), if_pos (by omega), if_pos (by omega), sum_f _ (by rw [ByteArray.size_append, ByteArray.size_extract]; omega)]
    simp only [Option.bind_some]
    rw [tail_f]
    simp only [Option.bind_some]
    rw [if_pos (by omega)]
end Go.Proofs.Ytfjhlcbpogihmaa.Pr
namespace Go.Proofs.Ytfjhlcbpogihmaa.Pr
open Go.RowKit Go.Proofs.YtfjhlcbpogihmaaW.PrintWords Go.Proofs.YtfjhlcbpogihmaaW.PrintLast Go.Proofs.YtfjhlcbpogihmaaW.PrintMore
set_option linter.unusedVariables false
set_option linter.unusedSimpArgs false
/-- A sealed text. -/
def sealB (s : ByteArray) : ByteArray := headB s ++ tailB (sumI (headB s))
theorem sealB_size (s : ByteArray) : ((sealB s).size : Int) = sizeI (s.size : Int) + s.size + 4 := by
  unfold sealB
  rw [ByteArray.size_append]
  have := headB_size s
  have := tailB_size (sumI (headB s))
  omega
/-- It is taken, whatever stands behind it. -/
theorem take_sealed (s more : ByteArray) (hs : s.size ≤ 65536) (hm : more.size ≤ 281474976710656) : seal_Take.f 20 (sealB s ++ more) = some (s, more, 0) := by
  have hz := sizeI_cases (s.size : Int)
  have hh := size_num (s.size : Int)
  obtain ⟨t, ht⟩ : ∃ t, tailB (sumI (headB s)) = t := ⟨_, rfl⟩
  have htz : t.size = 4 := by rw [← ht]; exact tailB_size _
  have e : sealB s ++ more = strOfNums (numL (s.size : Int)) ++ (s ++ (t ++ more)) := by
    unfold sealB headB
    rw [ba_assoc, ba_assoc]
    show _ ++ (s ++ (tailB (sumI (headB s)) ++ more)) = _
    rw [ht]
  rw [e, stake 20 _ _ s.size (take_back _ (by omega) (by omega)) hs (by rw [ByteArray.size_append, ByteArray.size_append, ByteArray.size_append]; omega)]
  have e1 : (s ++ (t ++ more)).extract 0 s.size = s := ByteArray.extract_append_eq_left rfl
  have e2 : (s ++ (t ++ more)).extract s.size (s.size + 4) = t := by
    have := ByteArray.extract_append_size_add (a := s) (b := t ++ more) (i := 0) (j := 4)
    rw [Nat.add_zero] at this
    rw [this, ← htz]
    exact ByteArray.extract_append_eq_left rfl
  have e3 : (s ++ (t ++ more)).extract (s.size + 4) (s ++ (t ++ more)).size = more := by
    have hsz : (s ++ (t ++ more)).size = s.size + (4 + more.size) := by rw [ByteArray.size_append, ByteArray.size_append, htz]
    rw [hsz, ByteArray.extract_append_size_add]
    exact ByteArray.extract_append_eq_right htz.symm (by rw [htz])
  rw [if_neg (by rw [ByteArray.size_append, ByteArray.size_append]; omega), e1, e2, e3]
  exact if_pos (show (tailB (sumI (headB s))).toList = t.toList by rw [ht])
/-- No beginning of it is one. -/
theorem take_cut (s : ByteArray) (hs : s.size ≤ 65536) (c : Nat) (hc : c < (sealB s).size) : seal_Take.f 20 ((sealB s).extract 0 c) = some ((⟨#[]⟩ : ByteArray), (⟨#[]⟩ : ByteArray), 2) := by
  have hz := sizeI_cases (s.size : Int)
  have hh := size_num (s.size : Int)
  have hbz := sealB_size s
  obtain ⟨t, ht⟩ : ∃ t, tailB (sumI (headB s)) = t := ⟨_, rfl⟩
  have htz : t.size = 4 := by rw [← ht]; exact tailB_size _
  have e : sealB s = strOfNums (numL (s.size : Int)) ++ (s ++ t) := by
    unfold sealB headB
    rw [ba_assoc]
    show _ ++ (s ++ tailB (sumI (headB s))) = _
    rw [ht]
  obtain ⟨hd, hhd⟩ : ∃ hd, strOfNums (numL (s.size : Int)) = hd := ⟨_, rfl⟩
  have hback : ∀ x, pack_TakeNum.f 20 (hd ++ x) = some ((s.size : Int), x, 0) := fun x => by rw [← hhd]; exact take_back _ (by omega) (by omega)
  rw [hhd] at e hh
  by_cases hcut : c < hd.size
  · rcases take_full (sealB s) with ⟨er, her, hf⟩ | ⟨m, v, hm1, hm8, hm, hf, hi, hv, hL, hshort⟩
    · rw [e, hback] at hf
      injection hf with hf
      injection hf with _ hf
      injection hf with _ hf
      exact absurd hf.symm her
    · have hf2 := hf
      rw [e, hback] at hf2
      injection hf2 with hf2
      injection hf2 with _ hf2
      injection hf2 with hf2 _
      have hsz : (s ++ t).size = ((hd ++ (s ++ t)).extract m (hd ++ (s ++ t)).size).size := by rw [← hf2]
      have hz2 : (hd ++ (s ++ t)).size = hd.size + (s.size + 4) := by rw [ByteArray.size_append, ByteArray.size_append, htz]
      have hz3 : (s ++ t).size = s.size + 4 := by rw [ByteArray.size_append, htz]
      rw [ByteArray.size_extract, hz2, hz3] at hsz
      rw [e, hz2] at hm
      have hT := hshort 20 c (by omega)
      unfold seal_Take.f
      rw [hT]
      simp
  · have e2 : (sealB s).extract 0 c = hd ++ (s ++ t).extract 0 (c - hd.size) := by
      rw [e, ByteArray.extract_append, ext_all (by omega), show 0 - hd.size = 0 from by omega]
    have hz3 : (s ++ t).size = s.size + 4 := by rw [ByteArray.size_append, htz]
    have hz4 : ((s ++ t).extract 0 (c - hd.size)).size ≤ c - hd.size := by rw [ByteArray.size_extract]; omega
    rw [e2, stake 20 hd _ s.size (hback _) hs (by rw [ByteArray.size_append]; omega), if_pos (by omega)]
end Go.Proofs.Ytfjhlcbpogihmaa.Pr
namespace Go.Proofs.Ytfjhlcbpogihmaa.Pr
open Go.RowKit Go.Proofs.YtfjhlcbpogihmaaW.PrintWords Go.Proofs.YtfjhlcbpogihmaaW.PrintLast Go.Proofs.YtfjhlcbpogihmaaW.PrintMore
set_option linter.unusedVariables false
set_option linter.unusedSimpArgs false
/-! The bytes. -/
def nB (v : Int) : ByteArray := strOfNums (numL v)
def nsB : List Int → ByteArray
  | [] => ⟨#[]⟩
  | v :: r => nB v ++ nsB r
def tB (a : ByteArray) : ByteArray := nB (a.size : Int) ++ a
def esB : List S75 → ByteArray
  | [] => ⟨#[]⟩
  | e :: r => (nB e.f0 ++ tB e.f1) ++ esB r
theorem mk_self (s : ByteArray) : (⟨s.data.toList.toArray⟩ : ByteArray) = s := by cases s; rw [Array.toArray_toList]
theorem mk_app (l m : List UInt8) : (⟨(l ++ m).toArray⟩ : ByteArray) = ⟨l.toArray⟩ ++ ⟨m.toArray⟩ := by
  rw [← List.append_toArray]
  apply ByteArray.ext
  rw [ByteArray.data_append]
theorem app_list (a b : ByteArray) : (a ++ b).data.toList = a.data.toList ++ b.data.toList := by rw [ByteArray.data_append, Array.toList_append]
theorem dlen (s : ByteArray) : s.data.toList.length = s.size := Array.length_toList
theorem nB_le (v : Int) : (nB v).size ≤ 8 := numL_le8 v
theorem nsB_le : ∀ l, (nsB l).size ≤ 8 * l.length
  | [] => Nat.le_refl _
  | v :: r => by
    have := nB_le v
    have := nsB_le r
    rw [nsB, ByteArray.size_append, List.length_cons]
    omega
theorem tB_le (a : ByteArray) : (tB a).size ≤ 8 + a.size := by
  have := nB_le (a.size : Int)
  rw [tB, ByteArray.size_append]
  omega
theorem esB_le : ∀ l : List S75, (∀ e ∈ l, e.f0 ≤ 4611686018427387903 ∧ e.f1.size ≤ 4096) → (esB l).size ≤ 4112 * l.length
  | [], _ => Nat.le_refl _
  | e :: r, h => by
    have := nB_le e.f0
    have := tB_le e.f1
    have := (h e (List.mem_cons_self ..)).2
    have := esB_le r (fun x hx => h x (List.mem_cons_of_mem _ hx))
    rw [esB, ByteArray.size_append, ByteArray.size_append, List.length_cons]
    omega
theorem num_ok {v : Int} (h0 : 0 ≤ v) (h1 : v ≤ 4611686018427387903) : pack_Num.f v = some (nB v, 0) := by
  rw [num_f (⟨h0, by omega⟩ : inU64 v)]
  unfold numE
  rw [if_pos (by omega)]
  rfl
theorem text_ok {a : ByteArray} (h : a.size ≤ 4096) : pack_Text.f a = some (tB a, 0) := by
  have := nB_le (a.size : Int)
  unfold pack_Text.f
  rw [if_neg (by omega), num_ok (by omega) (by omega)]
  simp only [Option.bind_some]
  rw [if_pos (by omega)]
  rfl
theorem numsF_ok : ∀ (l : List Int) (acc : List UInt8), (∀ x ∈ l, 0 ≤ x ∧ x ≤ 4611686018427387903) → acc.length + 8 * l.length ≤ 140737488355328 → numsF l acc = some ((⟨acc.toArray⟩ : ByteArray) ++ nsB l, 0)
  | [], acc, _, _ => by rw [numsF, nsB, ba_nil]
  | v :: r, acc, h, hb => by
    have hv := h v (List.mem_cons_self ..)
    have h8 := nB_le v
    rw [List.length_cons] at hb
    rw [numsF, num_ok hv.1 hv.2]
    simp only [Option.bind_some, if_true]
    rw [if_pos (by omega), numsF_ok r _ (fun x hx => h x (List.mem_cons_of_mem _ hx)) (by rw [List.length_append, dlen]; omega), mk_app, mk_self, nsB, ba_assoc]
theorem nums_ok (l : List Int) (h : ∀ x ∈ l, 0 ≤ x ∧ x ≤ 4611686018427387903) (hl : l.length ≤ 1000) : pack_Nums.f l = some (nsB ((l.length : Int) :: l), 0) := by
  unfold pack_Nums.f
  rw [if_pos (by omega), numsF_ok _ _ (fun x hx => by rcases List.mem_cons.1 hx with rfl | hx <;> first | exact h x hx | omega) (by simp only [List.length_cons, List.length_nil]; omega)]
  rw [show (⟨([] : List UInt8).toArray⟩ : ByteArray) = ⟨#[]⟩ from rfl, nil_ba]
end Go.Proofs.Ytfjhlcbpogihmaa.Pr
