/- What the program's functions compute, and that they compute it: printed out of the translation by a program of this session's (px.py, over the kit's printer). Conditions: none. -/
import Derived.Test.YtbejichfgednhaaPr0
import Derived.Test.YtbejichfgednhaaPr2
import Derived.Test.YtbejichfgednhaaHandAt
import Derived.Test.YtbejichfgednhaaHandOwn
namespace Go.Proofs.Ytbejichfgednhaa.Pr
open Go.RowKit Go.Proofs.YtbejichfgednhaaW.PrintWords Go.Proofs.YtbejichfgednhaaW.PrintLast Go.Proofs.YtbejichfgednhaaW.PrintMore
attribute [local go_sem] max2_int min2_int max_two min_two max_three min_three max_four min_four   -- for this text's walks alone
set_option linter.unusedVariables false
set_option linter.unusedSimpArgs false

/-! ### rlog_Join: function 10 -/
mutual
def rlog_Join.j0 : Nat → Int → Int → List (S36) → Int → Int → ByteArray → List (S36) → Option (Int × Int × ByteArray × (List (S36)) × Int × Bool)
  | 0, _, _, _, _, _, _, _ => none
  | k + 1, x1, x2, x3, x104000, x104001, x104002, x104003 => (rlog_TermAt.f x104000 x104001 x104002 x104003 x1).bind fun bt110 => (if bt110.2 = true then (rlog_Join.j1 k x1 x3 (bt110.1 != x2) x104000 x104001 x104002 x104003) else (rlog_Join.j1 k x1 x3 true x104000 x104001 x104002 x104003))
def rlog_Join.j1 : Nat → Int → List (S36) → Bool → Int → Int → ByteArray → List (S36) → Option (Int × Int × ByteArray × (List (S36)) × Int × Bool)
  | 0, _, _, _, _, _, _, _ => none
  | k + 1, x1, x3, x50, x104000, x104001, x104002, x104003 => if x50 = true then (some (x104000, x104001, x104002, x104003, 0, false)) else (rlog_Join.l0 k x1 x3 x3 (x3.length : Int) 0 x104000 x104001 x104002 x104003)
def rlog_Join.l0 : Nat → Int → List (S36) → List (S36) → Int → Int → Int → Int → ByteArray → List (S36) → Option (Int × Int × ByteArray × (List (S36)) × Int × Bool)
  | 0, _, _, _, _, _, _, _, _, _ => none
  | k + 1, x1, x3, x52, x53, x54, x104000, x104001, x104002, x104003 => if x54 < x53 then (if 0 ≤ x54 then (if x54 < (x52.length : Int) then ((rlog_TermAt.f x104000 x104001 x104002 x104003 (IntKind.u64.wrap ((IntKind.u64.wrap (x1 + (IntKind.u64.wrap (x54)))) + 1))).bind fun bt114 => (if bt114.2 = true then (rlog_Join.j3 k x1 x3 x54 (IntKind.u64.wrap ((IntKind.u64.wrap (x1 + (IntKind.u64.wrap (x54)))) + 1)) x52 x53 x54 (bt114.1 == ((rd_T36 x52 x54).f0)) x104000 x104001 x104002 x104003) else (rlog_Join.j3 k x1 x3 x54 (IntKind.u64.wrap ((IntKind.u64.wrap (x1 + (IntKind.u64.wrap (x54)))) + 1)) x52 x53 x54 false x104000 x104001 x104002 x104003))) else (none)) else (none)) else (some (x104000, x104001, x104002, x104003, 0, true))
def rlog_Join.j3 : Nat → Int → List (S36) → Int → Int → List (S36) → Int → Int → Bool → Int → Int → ByteArray → List (S36) → Option (Int × Int × ByteArray × (List (S36)) × Int × Bool)
  | 0, _, _, _, _, _, _, _, _, _, _, _, _ => none
  | k + 1, x1, x3, x13, x15, x52, x53, x54, x76, x104000, x104001, x104002, x104003 => if x76 = true then (rlog_Join.l0 k x1 x3 x52 x53 (wrap64 (x54 + 1)) x104000 x104001 x104002 x104003) else ((rlog_own.f x104000 x104001 x104002 x104003 (wrap64 (IntKind.u64.wrap ((IntKind.u64.wrap (x15 - x104000)) - 1)))).bind fun t116 => (if 0 ≤ x13 then (if x13 ≤ (x3.length : Int) then ((some (x3.drop (x13 : Int).toNat : List (S36))).bind fun y119 => (if t116.length + y119.length < 5864062014805 then ((some (t116 ++ y119 : List (S36))).bind fun y124 => (if (y124.length : Int) > 1024 then (some (x104000, x104001, x104002, x104003, 0, false)) else (if (IntKind.u64.wrap (x104000 + (IntKind.u64.wrap ((y124.length : Int))))) > 1099511627776 then (some (x104000, x104001, x104002, x104003, 0, false)) else ((rlog_with.f x104000 x104001 x104002 x104003 y124).bind fun bt127 => (some (bt127.1, bt127.2.1, bt127.2.2.1, bt127.2.2.2, x15, true)))))) else (none))) else (none)) else (none)))
end
def rlog_Join.f (k : Nat) (a0_0 : Int) (a0_1 : Int) (a0_2 : ByteArray) (l0_3 : List (S36)) (a1 : Int) (a2 : Int) (l3 : List (S36)) : Option (Int × Int × ByteArray × (List (S36)) × Int × Bool) := if a1 < a0_0 then (if 0 ≤ (mn (IntKind.u64.wrap (a0_0 - a1)) (IntKind.u64.wrap ((l3.length : Int)))) then (if (mn (IntKind.u64.wrap (a0_0 - a1)) (IntKind.u64.wrap ((l3.length : Int)))) ≤ (l3.length : Int) then (rlog_Join.j0 k a0_0 a0_1 (l3.drop ((mn (IntKind.u64.wrap (a0_0 - a1)) (IntKind.u64.wrap ((l3.length : Int)))) : Int).toNat) a0_0 a0_1 a0_2 l0_3) else (none)) else (none)) else (rlog_Join.j0 k a1 a2 l3 a0_0 a0_1 a0_2 l0_3)
theorem rlog_Join.mono_l : ∀ k, (∀ y0 y1 y2 y3 y4 y5 y6, LeO (rlog_Join.j0 k y0 y1 y2 y3 y4 y5 y6) (rlog_Join.j0 (k + 1) y0 y1 y2 y3 y4 y5 y6)) ∧ (∀ y0 y1 y2 y3 y4 y5 y6, LeO (rlog_Join.j1 k y0 y1 y2 y3 y4 y5 y6) (rlog_Join.j1 (k + 1) y0 y1 y2 y3 y4 y5 y6)) ∧ (∀ y0 y1 y2 y3 y4 y5 y6 y7 y8, LeO (rlog_Join.l0 k y0 y1 y2 y3 y4 y5 y6 y7 y8) (rlog_Join.l0 (k + 1) y0 y1 y2 y3 y4 y5 y6 y7 y8)) ∧ (∀ y0 y1 y2 y3 y4 y5 y6 y7 y8 y9 y10 y11, LeO (rlog_Join.j3 k y0 y1 y2 y3 y4 y5 y6 y7 y8 y9 y10 y11) (rlog_Join.j3 (k + 1) y0 y1 y2 y3 y4 y5 y6 y7 y8 y9 y10 y11))
  | 0 => ⟨fun _ _ _ _ _ _ _ r h => by simp [rlog_Join.j0] at h, fun _ _ _ _ _ _ _ r h => by simp [rlog_Join.j1] at h, fun _ _ _ _ _ _ _ _ _ r h => by simp [rlog_Join.l0] at h, fun _ _ _ _ _ _ _ _ _ _ _ _ r h => by simp [rlog_Join.j3] at h⟩
  | k + 1 => by
    obtain ⟨ih0, ih1, ih2, ih3⟩ := rlog_Join.mono_l k
    refine ⟨?_, ?_, ?_, ?_⟩
    · intro y0 y1 y2 y3 y4 y5 y6
      unfold rlog_Join.j0
      repeat' first
      | (with_reducible exact ih0 _ _ _ _ _ _ _)
      | (with_reducible exact ih1 _ _ _ _ _ _ _)
      | (with_reducible exact ih2 _ _ _ _ _ _ _ _ _)
      | (with_reducible exact ih3 _ _ _ _ _ _ _ _ _ _ _ _)
      | (with_reducible exact LeO.refl _)
      | (with_reducible exact LeO.none _)
      | (with_reducible refine LeO.ite ?_ ?_)
      | (with_reducible refine LeO.bind ?_ (fun _ => ?_))
      | exact ih0 _ _ _ _ _ _ _
      | exact ih1 _ _ _ _ _ _ _
      | exact ih2 _ _ _ _ _ _ _ _ _
      | exact ih3 _ _ _ _ _ _ _ _ _ _ _ _
      | exact LeO.none _
      | refine LeO.ite ?_ ?_
      | refine LeO.bind ?_ (fun _ => ?_)
    · intro y0 y1 y2 y3 y4 y5 y6
      unfold rlog_Join.j1
      repeat' first
      | (with_reducible exact ih0 _ _ _ _ _ _ _)
      | (with_reducible exact ih1 _ _ _ _ _ _ _)
      | (with_reducible exact ih2 _ _ _ _ _ _ _ _ _)
      | (with_reducible exact ih3 _ _ _ _ _ _ _ _ _ _ _ _)
      | (with_reducible exact LeO.refl _)
      | (with_reducible exact LeO.none _)
      | (with_reducible refine LeO.ite ?_ ?_)
      | (with_reducible refine LeO.bind ?_ (fun _ => ?_))
      | exact ih0 _ _ _ _ _ _ _
      | exact ih1 _ _ _ _ _ _ _
      | exact ih2 _ _ _ _ _ _ _ _ _
      | exact ih3 _ _ _ _ _ _ _ _ _ _ _ _
      | exact LeO.none _
      | refine LeO.ite ?_ ?_
      | refine LeO.bind ?_ (fun _ => ?_)
    · intro y0 y1 y2 y3 y4 y5 y6 y7 y8
      unfold rlog_Join.l0
      repeat' first
      | (with_reducible exact ih0 _ _ _ _ _ _ _)
      | (with_reducible exact ih1 _ _ _ _ _ _ _)
      | (with_reducible exact ih2 _ _ _ _ _ _ _ _ _)
      | (with_reducible exact ih3 _ _ _ _ _ _ _ _ _ _ _ _)
      | (with_reducible exact LeO.refl _)
      | (with_reducible exact LeO.none _)
      | (with_reducible refine LeO.ite ?_ ?_)
      | (with_reducible refine LeO.bind ?_ (fun _ => ?_))
      | exact ih0 _ _ _ _ _ _ _
      | exact ih1 _ _ _ _ _ _ _
      | exact ih2 _ _ _ _ _ _ _ _ _
      | exact ih3 _ _ _ _ _ _ _ _ _ _ _ _
      | exact LeO.none _
      | refine LeO.ite ?_ ?_
      | refine LeO.bind ?_ (fun _ => ?_)
    · intro y0 y1 y2 y3 y4 y5 y6 y7 y8 y9 y10 y11
      unfold rlog_Join.j3
      repeat' first
      | (with_reducible exact ih0 _ _ _ _ _ _ _)
      | (with_reducible exact ih1 _ _ _ _ _ _ _)
      | (with_reducible exact ih2 _ _ _ _ _ _ _ _ _)
      | (with_reducible exact ih3 _ _ _ _ _ _ _ _ _ _ _ _)
      | (with_reducible exact LeO.refl _)
      | (with_reducible exact LeO.none _)
      | (with_reducible refine LeO.ite ?_ ?_)
      | (with_reducible refine LeO.bind ?_ (fun _ => ?_))
      | exact ih0 _ _ _ _ _ _ _
      | exact ih1 _ _ _ _ _ _ _
      | exact ih2 _ _ _ _ _ _ _ _ _
      | exact ih3 _ _ _ _ _ _ _ _ _ _ _ _
      | exact LeO.none _
      | refine LeO.ite ?_ ?_
      | refine LeO.bind ?_ (fun _ => ?_)
theorem rlog_Join.mono : ∀ a0 a1 a2 a3 a4 a5 a6 k, LeO (rlog_Join.f k a0 a1 a2 a3 a4 a5 a6) (rlog_Join.f (k + 1) a0 a1 a2 a3 a4 a5 a6) := by
  intro a0 a1 a2 a3 a4 a5 a6 k
  obtain ⟨ih0, ih1, ih2, ih3⟩ := rlog_Join.mono_l k
  unfold rlog_Join.f
  repeat' first
      | (with_reducible exact ih0 _ _ _ _ _ _ _)
      | (with_reducible exact ih1 _ _ _ _ _ _ _)
      | (with_reducible exact ih2 _ _ _ _ _ _ _ _ _)
      | (with_reducible exact ih3 _ _ _ _ _ _ _ _ _ _ _ _)
      | (with_reducible exact LeO.refl _)
      | (with_reducible exact LeO.none _)
      | (with_reducible refine LeO.ite ?_ ?_)
      | (with_reducible refine LeO.bind ?_ (fun _ => ?_))
      | exact ih0 _ _ _ _ _ _ _
      | exact ih1 _ _ _ _ _ _ _
      | exact ih2 _ _ _ _ _ _ _ _ _
      | exact ih3 _ _ _ _ _ _ _ _ _ _ _ _
      | exact LeO.none _
      | refine LeO.ite ?_ ?_
      | refine LeO.bind ?_ (fun _ => ?_)
def rlog_Join.T14 : Bool × List (List Nat × List Nat) := (true, [([], []), ([], []), ([0, 1], [0, 1]), ([], []), ([], []), ([3, 4], [3, 4]), ([2, 5, 2], [2, 5]), ([6, 6, 0, 1, 2, 3, 4, 5, 6], [6])])
def rlog_Join.B14 : List Nat := [0, 0, 3, 0, 0, 24, 63, 127]
theorem rlog_Join.tab14 : rtab .any (opsOf Try.f10 14) = rlog_Join.T14 := by kernel_rfl
theorem rlog_Join.bits14 : waitsOk rlog_Join.T14.2 rlog_Join.B14 = true := by kernel_rfl
set_option maxHeartbeats 8000000 in
set_option maxRecDepth 100000 in
theorem rlog_Join.calls (k : Nat) (a0_0 : Int) (a0_1 : Int) (a0_2 : ByteArray) (P0_3_ : Nat → Prop) (A0_3 : Option Addr) (c0_3 : Nat) (l0_3 : List (S36)) (a1 : Int) (a2 : Int) (P3_ : Nat → Prop) (A3 : Option Addr) (c3 : Nat) (l3 : List (S36)) (r1 : Int) (r2 : Int) (r3 : ByteArray) (r4 : List (S36)) (r5 : Int) (r6 : Bool) (w : World) (hs0_3 : Kd.V k36 36 w w.heap.size (fun k_ => P0_3_ k_) (.slice A0_3 l0_3.length c0_3) l0_3) (hs3 : Kd.V k36 36 w w.heap.size (fun k_ => P3_ k_) (.slice A3 l3.length c3) l3) (h : rlog_Join.f k a0_0 a0_1 a0_2 l0_3 a1 a2 l3 = some (r1, r2, r3, r4, r5, r6)) :
    Calls Try.prog 10 #[.agg #[.int .u64 a0_0, .int .u64 a0_1, .string a0_2, .slice A0_3 l0_3.length c0_3], .int .u64 a1, .int .u64 a2, .slice A3 l3.length c3] w fun e w' => ∃ v3_ : Value, e = .returned (.tuple #[.agg #[.int .u64 r1, .int .u64 r2, .string r3, v3_], .int .u64 r5, .bool r6]) ∧ Kd.V k36 36 w' w.heap.size (fun k_ => ((P0_3_ k_ ∨ P3_ k_) ∨ w.heap.size ≤ k_)) v3_ r4 ∧ Below w.heap.size w w' := by
  have hu25 := Try.underlying25
  have hu36 := Try.underlying36
  have HO0_3 := Aside0.mk (show Kd.V k36 36 w w.heap.size (fun k_ => ((P0_3_ k_ ∨ P3_ k_) ∨ w.heap.size ≤ k_)) (.slice A0_3 l0_3.length c0_3) l0_3 from Kd.V_mono hs0_3 (fun k_ hk => .inl (.inl hk)))
  have HO3 := Aside0.mk (show Kd.V k36 36 w w.heap.size (fun k_ => ((P0_3_ k_ ∨ P3_ k_) ∨ w.heap.size ≤ k_)) (.slice A3 l3.length c3) l3 from Kd.V_mono hs3 (fun k_ hk => .inl (.inr hk)))
  have HB := Aside0.mk (Below.refl w.heap.size w)
  have H : (if a1 < a0_0 then (if 0 ≤ (mn (IntKind.u64.wrap (a0_0 - a1)) (IntKind.u64.wrap ((l3.length : Int)))) then (if (mn (IntKind.u64.wrap (a0_0 - a1)) (IntKind.u64.wrap ((l3.length : Int)))) ≤ (l3.length : Int) then (rlog_Join.j0 k a0_0 a0_1 (l3.drop ((mn (IntKind.u64.wrap (a0_0 - a1)) (IntKind.u64.wrap ((l3.length : Int)))) : Int).toNat) a0_0 a0_1 a0_2 l0_3) else (none)) else (none)) else (rlog_Join.j0 k a1 a2 l3 a0_0 a0_1 a0_2 l0_3)) = some (r1, r2, r3, r4, r5, r6) := h
  clear h
  have HC5 := Aside0.mk H
  clear H
  go_enter Try.func10, Try.ntmps10
  go_upto_if 23 with (first | ((with_reducible refine gate_dst (N := 4) rfl ?_); (try (refine gate_guard (by rfl) ?_; dsimp only)); refine box_event ?hg (N := 4) ?hd (cs := #[.int .u64 a0_0, .int .u64 a0_1, .string a0_2, .slice A0_3 l0_3.length c0_3]) (t := 25) ?hr ?_; (case hd => rfl); (case hg => rfl); (case hr => first | (go_simp; done) | (go_simp; rfl)); intro gb103 hg w6 hbox hb; have n0_ := Aside0.mk (Kd.V_below (Kd.V_elderB (by (with_reducible repeat (first | apply Kd.V_alloc | apply Kd.V_drewN | apply Kd.V_drew)); exact HO0_3.out) gb103 (Nat.le_of_eq hg.symm)) hb); have n1_ := Aside0.mk (Kd.V_below (Kd.V_elderB (by (with_reducible repeat (first | apply Kd.V_alloc | apply Kd.V_drewN | apply Kd.V_drew)); exact HO3.out) gb103 (Nat.le_of_eq hg.symm)) hb); have n2_ := Aside0.mk (below_step (by repeat (first | (with_reducible first | exact HB.out | apply below_alloc | apply pw_below_drewN | apply below_drew1) | exact HB.out)) hb); have n3_ := Aside0.mk (hbox); have n4_ := Aside0.mk ((by rw [hg]; exact (below_size (by repeat (first | (with_reducible first | exact HB.out | apply below_alloc | apply pw_below_drewN | apply below_drew1) | exact HB.out))) : w.heap.size ≤ gb103)); have n5_ := Aside0.mk ((by rw [hg]; exact (below_size (by repeat (first | (with_reducible first | exact HB.out | apply below_alloc | apply pw_below_drewN | apply below_drew1) | exact HB.out))) : w.heap.size ≤ gb103)); clear HO0_3; clear HO3; clear HB; have HO0_3 := n0_; have HO3 := n1_; have HB := n2_; have BK103 := n3_; have GW103 := n4_; have GE103 := n5_; clear n0_ n1_ n2_ n3_ n4_ n5_; clear hb hbox hg) | ((with_reducible refine gate_dst (N := 8) rfl ?_); (try (refine gate_guard (by rfl) ?_; dsimp only)); refine box_event ?hg (N := 8) ?hd (cs := #[.int .u64 0, .int .u64 0, .string (⟨#[]⟩ : ByteArray), .slice none 0 0]) (t := 25) ?hr ?_; (case hd => rfl); (case hg => rfl); (case hr => first | (go_simp; done) | (go_simp; rfl)); intro gb104 hg w7 hbox hb; have n0_ := Aside0.mk (Kd.V_below (Kd.V_elderB (by (with_reducible repeat (first | apply Kd.V_alloc | apply Kd.V_drewN | apply Kd.V_drew)); exact HO0_3.out) gb104 (Nat.le_of_eq hg.symm)) hb); have n1_ := Aside0.mk (Kd.V_below (Kd.V_elderB (by (with_reducible repeat (first | apply Kd.V_alloc | apply Kd.V_drewN | apply Kd.V_drew)); exact HO3.out) gb104 (Nat.le_of_eq hg.symm)) hb); have n2_ := Aside0.mk (blk_below (g := gb103) (o := .cells #[.int .u64 a0_0, .int .u64 a0_1, .string a0_2, .slice A0_3 l0_3.length c0_3] 25 (0, 0)) (by (with_reducible repeat (first | refine blk_drewN ?_ _ | refine blk_drew ?_ | refine blk_alloc ?_ _)); exact BK103.out) hb); have n3_ := Aside0.mk (below_step (by repeat (first | (with_reducible first | exact HB.out | apply below_alloc | apply pw_below_drewN | apply below_drew1 | refine below_set ?_ GE103.out) | exact HB.out)) hb); have n4_ := Aside0.mk (hbox); have n5_ := Aside0.mk ((by rw [hg]; exact (below_size (by repeat (first | (with_reducible first | exact HB.out | apply below_alloc | apply pw_below_drewN | apply below_drew1 | refine below_set ?_ GE103.out) | exact HB.out))) : w.heap.size ≤ gb104)); have n6_ := Aside0.mk ((by rw [hg]; exact (below_size (by repeat (first | (with_reducible first | exact HB.out | apply below_alloc | apply pw_below_drewN | apply below_drew1 | refine below_set ?_ GE103.out) | exact HB.out))) : w.heap.size ≤ gb104)); have n7_ := Aside0.mk ((by rw [hg]; exact Nat.ne_of_lt (blk_lt (g := gb103) (o := .cells #[.int .u64 a0_0, .int .u64 a0_1, .string a0_2, .slice A0_3 l0_3.length c0_3] 25 (0, 0)) (by (with_reducible repeat (first | refine blk_drewN ?_ _ | refine blk_drew ?_ | refine blk_alloc ?_ _)); exact BK103.out)) : gb103 ≠ gb104)); have n8_ := Aside0.mk ((by rw [hg]; exact Nat.ne_of_gt (blk_lt (g := gb103) (o := .cells #[.int .u64 a0_0, .int .u64 a0_1, .string a0_2, .slice A0_3 l0_3.length c0_3] 25 (0, 0)) (by (with_reducible repeat (first | refine blk_drewN ?_ _ | refine blk_drew ?_ | refine blk_alloc ?_ _)); exact BK103.out)) : gb104 ≠ gb103)); clear HO0_3; clear HO3; clear BK103; clear HB; have HO0_3 := n0_; have HO3 := n1_; have BK103 := n2_; have HB := n3_; have BK104 := n4_; have GW104 := n5_; have GE104 := n6_; have NB103_104 := n7_; have NB104_103 := n8_; clear n0_ n1_ n2_ n3_ n4_ n5_ n6_ n7_ n8_; clear hb hbox hg; have hnb8 := NB103_104.out; have hnc8 := NB104_103.out; have hcz9_0 : w7.cell? ⟨gb103, 0, none⟩ = some (.int .u64 a0_0) := (blk_cell BK103.out 0).trans rfl; have hcz9_1 : w7.cell? ⟨gb103, 1, none⟩ = some (.int .u64 a0_1) := (blk_cell BK103.out 1).trans rfl; have hcz9_2 : w7.cell? ⟨gb103, 2, none⟩ = some (.string a0_2) := (blk_cell BK103.out 2).trans rfl; have hcz9_3 : w7.cell? ⟨gb103, 3, none⟩ = some (.slice A0_3 l0_3.length c0_3) := (blk_cell BK103.out 3).trans rfl; have hfz9_0 := blk_frozen BK103.out 0; have hfz9_1 := blk_frozen BK103.out 1; have hfz9_2 := blk_frozen BK103.out 2; have hfz9_3 := blk_frozen BK103.out 3))
  (try simp only [Act.put, List.setIfInBounds_toArray, List.set_cons_zero, List.set_cons_succ])
  go_cut [1, 2, 3] (fun v1 v2 v3 wc => ∃ (kq : Nat) (x1_4 : Int) (x2_4 : Int) (x3_4 : List (S36)), v1 = .int .u64 x1_4 ∧ v2 = .int .u64 x2_4 ∧ Aside0 (rlog_Join.j0 kq x1_4 x2_4 x3_4 a0_0 a0_1 a0_2 l0_3 = some (r1, r2, r3, r4, r5, r6)) ∧ Aside0 (kq ≤ k) ∧ Aside0 (Kd.V k36 36 wc w.heap.size (fun k_ => ((P0_3_ k_ ∨ P3_ k_) ∨ w.heap.size ≤ k_) ∧ k_ ≠ gb103 ∧ k_ ≠ gb104) v3 x3_4) ∧ Aside0 (Kd.V k36 36 wc w.heap.size (fun k_ => ((P0_3_ k_ ∨ P3_ k_) ∨ w.heap.size ≤ k_) ∧ k_ ≠ gb103 ∧ k_ ≠ gb104) (.slice A0_3 l0_3.length c0_3) l0_3) ∧ Aside0 (wc.heap[gb103]? = some (.cells #[.int .u64 a0_0, .int .u64 a0_1, .string a0_2, (.slice A0_3 l0_3.length c0_3)] 25 (0, 0))) ∧ Aside0 (wc.heap[gb104]? = some (.cells #[.int .u64 0, .int .u64 0, .string (⟨#[]⟩ : ByteArray), (.slice none 0 0)] 25 (0, 0))) ∧ Aside0 (Below w.heap.size w wc))
  case first =>
    have H := HC5.out
    clear HC5
    by_cases c10 : a1 < a0_0
    · rw [if_pos c10] at H
      have c10b0 : decide (a1 < a0_0) = true := decide_eq_true c10
      clear c10
      (first | rw [c10b0] | (simp only [i64_w, i32_w]; rw [c10b0]) | skip)
      obtain ⟨ji11, hji11⟩ : ∃ j_ : Int, (mn (IntKind.u64.wrap (a0_0 - a1)) (IntKind.u64.wrap ((l3.length : Int)))) = j_ := ⟨_, rfl⟩
      replace H : (if 0 ≤ (ji11) then (if (ji11) ≤ (l3.length : Int) then (rlog_Join.j0 k a0_0 a0_1 (l3.drop ((ji11) : Int).toNat) a0_0 a0_1 a0_2 l0_3) else (none)) else (none)) = some (r1, r2, r3, r4, r5, r6) := by first | (rw [hji11] at H; exact H) | (simp only [hji11] at H ⊢; exact H)
      have hji11_ : (if (IntKind.u64.wrap ((l3.length : Int))) < (IntKind.u64.wrap (a0_0 - a1)) then (IntKind.u64.wrap ((l3.length : Int))) else (IntKind.u64.wrap (a0_0 - a1))) = ji11 := hji11
      by_cases c12 : 0 ≤ (ji11)
      · rw [if_pos c12] at H
        have c12b0 := eq_true c12
        have c12b1 : decide (0 ≤ (ji11)) = true := decide_eq_true c12
        clear c12
        by_cases c13 : (ji11) ≤ (l3.length : Int)
        · rw [if_pos c13] at H
          have c13b0 := eq_true c13
          have c13b1 : decide ((ji11) ≤ (l3.length : Int)) = true := decide_eq_true c13
          clear c13
          obtain ⟨y105, hy105⟩ : ∃ y_ : List (S36), y_ = (l3.drop ((ji11) : Int).toNat) := ⟨_, rfl⟩
          replace H : (rlog_Join.j0 k a0_0 a0_1 y105 a0_0 a0_1 a0_2 l0_3) = some (r1, r2, r3, r4, r5, r6) := by first | (rw [hy105]; with_reducible exact H) | (have H2_ := (Option.bind_some _ _).symm.trans H; rw [hy105]; with_reducible exact H2_) | (have H2_ := (Option.bind_some _ _).symm.trans H; with_reducible exact H2_) | with_reducible exact H | (rw [hy105]; exact H) | exact H
          have Ny105 := Aside0.mk hy105
          clear hy105
          have H' := Aside0.mk H
          clear H
          have hnb14 := NB103_104.out
          have hnc14 := NB104_103.out
          have hcz15_0 : w7.cell? ⟨gb103, 0, none⟩ = some (.int .u64 a0_0) := (blk_cell BK103.out 0).trans rfl
          have hcz15_1 : w7.cell? ⟨gb103, 1, none⟩ = some (.int .u64 a0_1) := (blk_cell BK103.out 1).trans rfl
          have hcz15_2 : w7.cell? ⟨gb103, 2, none⟩ = some (.string a0_2) := (blk_cell BK103.out 2).trans rfl
          have hcz15_3 : w7.cell? ⟨gb103, 3, none⟩ = some (.slice A0_3 l0_3.length c0_3) := (blk_cell BK103.out 3).trans rfl
          have hfz15_0 := blk_frozen BK103.out 0
          have hfz15_1 := blk_frozen BK103.out 1
          have hfz15_2 := blk_frozen BK103.out 2
          have hfz15_3 := blk_frozen BK103.out 3
          have q16 : ((ji11) : Int) ≤ ((l3.length : Int) : Int) := of_decide_eq_true (by first | (with_reducible assumption) | assumption)
          obtain ⟨i016, hi016, _, hsz16, _⟩ := info_parts info36
          have hroom16 : l3.length ≤ c3 := (Kd.V_reads' HO3.out).2.1
          have hC16 : Kd.F k36 _ _ A3 l3.length l3 := (Kd.V_at (base := w.heap.size) HO3.out).2.2
          have q016 : (0 : Int) ≤ ((ji11) : Int) := of_decide_eq_true (by first | (with_reducible assumption) | assumption)
          have hcut16 := cut_from (P := Try.prog) 23 36 .u64 Try.underlying23 hi016 2 hsz16 A3 l3.length c3 (ji11) q016 q16
          have hr16 := Kd.F_cut (m := ((ji11) : Int).toNat) (c := c3) hC16 (by omega) hroom16
          obtain ⟨A16, hA16⟩ : ∃ A1, A1 = (if c3 = ((ji11) : Int).toNat then A3 else (A3 : Option Addr).map (·.add (((ji11) : Int).toNat * 2))) := ⟨_, rfl⟩
          obtain ⟨c16, hc16⟩ : ∃ c1, c1 = c3 - ((ji11) : Int).toNat := ⟨_, rfl⟩
          have hy16 : y105.length = l3.length - ((ji11) : Int).toNat := (by rw [Ny105.out, List.length_drop] <;> omega)
          rw [show (l3).drop ((ji11) : Int).toNat = y105 from Ny105.out.symm] at hr16
          replace hr16 : Kd.F k36 _ _ A16 y105.length y105 := (by rw [hA16]; exact hr16)
          rw [← hy16, ← hA16, ← hc16] at hcut16
          have HO109 := Aside0.mk (show Kd.V k36 36 _ w.heap.size _ (.slice A16 y105.length c16) y105 from Kd.V_mk (by rw [hy16, hc16]; exact Nat.sub_le_sub_right hroom16 _) hr16)
          have HC109 := Aside0.mk (show y105.length ≤ c16 from by rw [hy16, hc16]; exact Nat.sub_le_sub_right hroom16 _)
          clear hr16 hC16 hroom16 hi016 hsz16 hc16
          have KY16 := Aside0.mk hy16
          have KA16 := Aside0.mk hA16
          clear hy16 hA16
          replace q16 := eq_true q16
          try go_wp2
          have n0_ := Aside0.mk (Kd.V_drew HO0_3.out)
          have n1_ := Aside0.mk (Kd.V_drew HO3.out)
          have n2_ := Aside0.mk (Kd.V_drew HO109.out)
          have n3_ := Aside0.mk (blk_drew BK103.out)
          have n4_ := Aside0.mk (blk_drew BK104.out)
          have n5_ := Aside0.mk (below_drew1 HB.out)
          clear HO0_3
          clear HO3
          clear HO109
          clear BK103
          clear BK104
          clear HB
          have HO0_3 := n0_
          have HO3 := n1_
          have HO109 := n2_
          have BK103 := n3_
          have BK104 := n4_
          have HB := n5_
          clear n0_ n1_ n2_ n3_ n4_ n5_
          refine start_ (n := 6) (S := fun w' => w'.cell? ⟨gb103, 0, none⟩ = some (.int .u64 a0_0) ∧ w'.cell? ⟨gb103, 1, none⟩ = some (.int .u64 a0_1) ∧ w'.cell? ⟨gb103, 2, none⟩ = some (.string a0_2) ∧ w'.cell? ⟨gb103, 3, none⟩ = some (.slice A0_3 l0_3.length c0_3)) (ds := []) #[false, false, false, false, false, false] (by kernel_rfl) rfl rfl ⟨(blk_cell BK103.out 0).trans rfl, (blk_cell BK103.out 1).trans rfl, (blk_cell BK103.out 2).trans rfl, (blk_cell BK103.out 3).trans rfl⟩ (fun hHeld => ?_)
          generalize w7.drew = w17 at HO0_3 HO3 HO109 BK103 BK104 HB hHeld ⊢
          refine pure_ (i := 0) (N := some 34) (v := ?_) (a' := ?_) #[true, false, false, false, false, false] rfl rfl (by kernel_rfl) (fun _ _ _ h => h) (Or.inl ⟨by rfl, ?_⟩) ?_ ?_
          rotate_left
          · intro w'
            go_simp
            with_reducible rfl
          rotate_left
          · simp only [Act.put, List.setIfInBounds_toArray, List.set_cons_zero, List.set_cons_succ, i64_w, i32_w]
            rfl
          refine pure_ (i := 2) (N := some 36) (v := ?_) (a' := ?_) #[true, false, true, false, false, false] rfl rfl (by kernel_rfl) (fun _ _ _ h => h) (Or.inl ⟨by rfl, ?_⟩) ?_ ?_
          rotate_left
          · intro w'
            go_simp
            with_reducible rfl
          rotate_left
          · simp only [Act.put, List.setIfInBounds_toArray, List.set_cons_zero, List.set_cons_succ, i64_w, i32_w]
            rfl
          refine take_ (i := 1) (N := some 35) (v := ?_) (a' := ?_) #[true, true, true, false, false, false] rfl rfl (by kernel_rfl) (fun _ _ _ h => h) (Or.inl ⟨by rfl, ?_⟩) hHeld ?_ ?_
          rotate_left
          · rintro w' ⟨s0, s1, s2, s3⟩
            go_simp
            with_reducible rfl
          rotate_left
          · simp only [Act.put, List.setIfInBounds_toArray, List.set_cons_zero, List.set_cons_succ, i64_w, i32_w]
            rfl
          refine pure_ (i := 4) (N := some 1) (v := ?_) (a' := ?_) #[true, true, true, false, true, false] rfl rfl (by kernel_rfl) (fun _ _ _ h => h) (Or.inl ⟨by rfl, ?_⟩) ?_ ?_
          rotate_left
          · intro w'
            go_simp
            with_reducible rfl
          rotate_left
          · simp only [Act.put, List.setIfInBounds_toArray, List.set_cons_zero, List.set_cons_succ, i64_w, i32_w]
            rfl
          refine take_ (i := 3) (N := some 37) (v := ?_) (a' := ?_) #[true, true, true, true, true, false] rfl rfl (by kernel_rfl) (fun _ _ _ h => h) (Or.inl ⟨by rfl, ?_⟩) hHeld ?_ ?_
          rotate_left
          · rintro w' ⟨s0, s1, s2, s3⟩
            go_simp
            with_reducible rfl
          rotate_left
          · simp only [Act.put, List.setIfInBounds_toArray, List.set_cons_zero, List.set_cons_succ, i64_w, i32_w]
            rfl
          refine pure_ (i := 5) (N := some 2) (v := ?_) (a' := ?_) #[true, true, true, true, true, true] rfl rfl (by kernel_rfl) (fun _ _ _ h => h) (Or.inl ⟨by rfl, ?_⟩) ?_ ?_
          rotate_left
          · intro w'
            go_simp
            with_reducible rfl
          rotate_left
          · simp only [Act.put, List.setIfInBounds_toArray, List.set_cons_zero, List.set_cons_succ, i64_w, i32_w]
            rfl
          refine done_ (by kernel_rfl) ?_
          try go_wp2
          go_meet
          case rel => exact ⟨_, (a0_0), (a0_1), (y105), (by first | rfl | (simp; done) | (simp [*]; done)), (by first | rfl | (simp; done) | (simp [*]; done)), H', ⟨by first | omega | exact Nat.le_refl _⟩, ⟨by (with_reducible repeat (first | apply Kd.V_alloc | apply Kd.V_drewN | apply Kd.V_drew)); exact Kd.V_mono HO109.out (fun _ hk => ⟨hk.1.1, ⟨hk.1.2, hk.2⟩⟩)⟩, ⟨by (with_reducible repeat (first | apply Kd.V_alloc | apply Kd.V_drewN | apply Kd.V_drew)); exact Kd.V_mono HO0_3.out (fun _ hk => ⟨hk.1.1, ⟨hk.1.2, hk.2⟩⟩)⟩, ⟨by (with_reducible repeat (first | refine blk_drewN ?_ _ | refine blk_drew ?_ | refine blk_alloc ?_ _)); exact BK103.out⟩, ⟨by (with_reducible repeat (first | refine blk_drewN ?_ _ | refine blk_drew ?_ | refine blk_alloc ?_ _)); exact BK104.out⟩, ⟨by repeat (first | (with_reducible first | exact HB.out | apply below_alloc | apply pw_below_drewN | apply below_drew1 | refine below_set ?_ GE103.out | refine below_set ?_ GE104.out) | exact HB.out)⟩⟩
        · rw [if_neg c13] at H
          exact absurd H (by simp)
      · rw [if_neg c12] at H
        exact absurd H (by simp)
    · rw [if_neg c10] at H
      have c10b0 : decide (a1 < a0_0) = false := decide_eq_false c10
      clear c10
      (first | rw [c10b0] | (simp only [i64_w, i32_w]; rw [c10b0]) | skip)
      have H' := Aside0.mk H
      clear H
      go_wp2
      go_meet
      case rel => exact ⟨_, (a1), (a2), (l3), (by first | rfl | (simp; done) | (simp [*]; done)), (by first | rfl | (simp; done) | (simp [*]; done)), H', ⟨by first | omega | exact Nat.le_refl _⟩, ⟨by (with_reducible repeat (first | apply Kd.V_alloc | apply Kd.V_drewN | apply Kd.V_drew)); exact Kd.V_mono HO3.out (fun _ hk => ⟨hk.1.1, ⟨hk.1.2, hk.2⟩⟩)⟩, ⟨by (with_reducible repeat (first | apply Kd.V_alloc | apply Kd.V_drewN | apply Kd.V_drew)); exact Kd.V_mono HO0_3.out (fun _ hk => ⟨hk.1.1, ⟨hk.1.2, hk.2⟩⟩)⟩, ⟨by (with_reducible repeat (first | refine blk_drewN ?_ _ | refine blk_drew ?_ | refine blk_alloc ?_ _)); exact BK103.out⟩, ⟨by (with_reducible repeat (first | refine blk_drewN ?_ _ | refine blk_drew ?_ | refine blk_alloc ?_ _)); exact BK104.out⟩, ⟨by repeat (first | (with_reducible first | exact HB.out | apply below_alloc | apply pw_below_drewN | apply below_drew1 | refine below_set ?_ GE103.out | refine below_set ?_ GE104.out) | exact HB.out)⟩⟩
  case rest =>
    clear HC5
    try clear c1
    try clear q1
    try clear p2
    try clear c3
    try clear c8
    try clear c10
    try clear c10b0
    try clear c12
    try clear c12b0
    try clear c12b1
    try clear c13
    try clear c13b0
    try clear c13b1
    try clear c14
    try clear c16
    try clear q16
    try clear hcz15_0
    try clear hcz15_1
    try clear hcz15_2
    try clear hcz15_3
    try clear hcz9_0
    try clear hcz9_1
    try clear hcz9_2
    try clear hcz9_3
    try clear hfz15_0
    try clear hfz15_1
    try clear hfz15_2
    try clear hfz15_3
    try clear hfz9_0
    try clear hfz9_1
    try clear hfz9_2
    try clear hfz9_3
    try clear q016
    try clear q16
    obtain ⟨kq, x1_4, x2_4, x3_4, rfl, rfl, HA, HJ4, HO_3, HO_104003, BK103, BK104, HB⟩ := hcut
    cases kq with
    | zero => exact absurd HA.out (by simp [rlog_Join.j0])
    | succ kj4 =>
      have H := HA.out
      clear HA
      simp only [rlog_Join.j0] at H
      replace H := Option.bind_eq_some_iff.mp H
      obtain ⟨⟨t110, t111⟩, A180, H⟩ := H
      replace H : (if t111 = true then (rlog_Join.j1 kj4 x1_4 x3_4 (t110 != x2_4) a0_0 a0_1 a0_2 l0_3) else (rlog_Join.j1 kj4 x1_4 x3_4 true a0_0 a0_1 a0_2 l0_3)) = some (r1, r2, r3, r4, r5, r6) := H
      have A18 := Aside0.mk A180
      clear A180
      have HC19 := Aside0.mk H
      clear H
      have hnb20 := NB103_104.out
      have hnc20 := NB104_103.out
      have hcz21_0 : wc.cell? ⟨gb103, 0, none⟩ = some (.int .u64 a0_0) := (blk_cell BK103.out 0).trans rfl
      have hcz21_1 : wc.cell? ⟨gb103, 1, none⟩ = some (.int .u64 a0_1) := (blk_cell BK103.out 1).trans rfl
      have hcz21_2 : wc.cell? ⟨gb103, 2, none⟩ = some (.string a0_2) := (blk_cell BK103.out 2).trans rfl
      have hcz21_3 : wc.cell? ⟨gb103, 3, none⟩ = some (.slice A0_3 l0_3.length c0_3) := (blk_cell BK103.out 3).trans rfl
      have hfz21_0 := blk_frozen BK103.out 0
      have hfz21_1 := blk_frozen BK103.out 1
      have hfz21_2 := blk_frozen BK103.out 2
      have hfz21_3 := blk_frozen BK103.out 3
      go_upto_region 5 with (first | ((with_reducible refine gate_callee (f := 13) rfl ?_); refine goesL_ (some 41) rfl rfl Try.func13 (by kernel_rfl) rfl #[.agg #[.int .u64 a0_0, .int .u64 a0_1, .string a0_2, .slice A0_3 l0_3.length c0_3], .int .u64 x1_4] rfl (by (try simp only [List.map_toArray, List.map_cons, List.map_nil]); first | done | rfl | (simp only [List.length_drop, List.length_take]; rfl)) ?_; (with_reducible refine (rlog_TermAt.calls a0_0 a0_1 a0_2 _ _ l0_3 x1_4 t110 t111 _ ?side1 ?side2 A18.out).mono ?_); (case side1 => repeat (first | exact (Kd.V_reads' HO_104003.out).2.2 | (with_reducible refine Kd.C_alloc ?_ _) | (with_reducible refine Kd.C_drewN ?_ _) | (with_reducible refine Kd.C_drew ?_))); (case side2 => exact (Kd.V_reads' HO_104003.out).2.1); rintro e w22 ⟨rfl, hb⟩; refine ⟨_, rfl, ?_⟩; have n0_ := Aside0.mk (Kd.V_below (by (with_reducible repeat (first | apply Kd.V_alloc | apply Kd.V_drewN | apply Kd.V_drew)); exact HO_3.out) hb); have n1_ := Aside0.mk (Kd.V_below (by (with_reducible repeat (first | apply Kd.V_alloc | apply Kd.V_drewN | apply Kd.V_drew)); exact HO_104003.out) hb); have n2_ := Aside0.mk (blk_below (g := gb103) (o := .cells #[.int .u64 a0_0, .int .u64 a0_1, .string a0_2, .slice A0_3 l0_3.length c0_3] 25 (0, 0)) (by (with_reducible repeat (first | refine blk_drewN ?_ _ | refine blk_drew ?_ | refine blk_alloc ?_ _)); exact BK103.out) hb); have n3_ := Aside0.mk (blk_below (g := gb104) (o := .cells #[.int .u64 0, .int .u64 0, .string (⟨#[]⟩ : ByteArray), .slice none 0 0] 25 (0, 0)) (by (with_reducible repeat (first | refine blk_drewN ?_ _ | refine blk_drew ?_ | refine blk_alloc ?_ _)); exact BK104.out) hb); have n4_ := Aside0.mk (below_step (by repeat (first | (with_reducible first | exact HB.out | apply below_alloc | apply pw_below_drewN | apply below_drew1 | refine below_set ?_ GE103.out | refine below_set ?_ GE104.out) | exact HB.out)) hb); clear HO_3; clear HO_104003; clear BK103; clear BK104; clear HB; have HO_3 := n0_; have HO_104003 := n1_; have BK103 := n2_; have BK104 := n3_; have HB := n4_; clear n0_ n1_ n2_ n3_ n4_; (try clear hb); (try clear hb2); (try clear hk); (try clear hi)))
      (try simp only [Act.put, List.setIfInBounds_toArray, List.set_cons_zero, List.set_cons_succ])
      go_cut [50] (fun v50 wc => ∃ (kq : Nat) (x50_18 : Bool), v50 = .bool x50_18 ∧ Aside0 (rlog_Join.j1 kq x1_4 x3_4 x50_18 a0_0 a0_1 a0_2 l0_3 = some (r1, r2, r3, r4, r5, r6)) ∧ Aside0 (kq ≤ kj4) ∧ Aside0 (Kd.V k36 36 wc w.heap.size (fun k_ => ((P0_3_ k_ ∨ P3_ k_) ∨ w.heap.size ≤ k_) ∧ k_ ≠ gb103 ∧ k_ ≠ gb104) u3 x3_4) ∧ Aside0 (Kd.V k36 36 wc w.heap.size (fun k_ => ((P0_3_ k_ ∨ P3_ k_) ∨ w.heap.size ≤ k_) ∧ k_ ≠ gb103 ∧ k_ ≠ gb104) (.slice A0_3 l0_3.length c0_3) l0_3) ∧ Aside0 (wc.heap[gb103]? = some (.cells #[.int .u64 a0_0, .int .u64 a0_1, .string a0_2, (.slice A0_3 l0_3.length c0_3)] 25 (0, 0))) ∧ Aside0 (wc.heap[gb104]? = some (.cells #[.int .u64 0, .int .u64 0, .string (⟨#[]⟩ : ByteArray), (.slice none 0 0)] 25 (0, 0))) ∧ Aside0 (Below w.heap.size w wc))
      case first =>
        have H := HC19.out
        clear HC19
        by_cases c23 : t111 = true
        · subst c23
          have H1 : (rlog_Join.j1 kj4 x1_4 x3_4 (t110 != x2_4) a0_0 a0_1 a0_2 l0_3) = some (r1, r2, r3, r4, r5, r6) := by rw [if_pos rfl] at H; exact H
          clear H
          have H := H1
          clear H1
          have H' := Aside0.mk H
          clear H
          go_wp2
          go_meet
          case rel => exact ⟨_, ((t110 != x2_4)), (by first | rfl | (simp; done) | (simp [*]; done)), H', ⟨by have := HJ4.out; first | omega | exact Nat.le_refl _⟩, ⟨by (with_reducible repeat (first | apply Kd.V_alloc | apply Kd.V_drewN | apply Kd.V_drew)); exact HO_3.out⟩, ⟨by (with_reducible repeat (first | apply Kd.V_alloc | apply Kd.V_drewN | apply Kd.V_drew)); exact HO_104003.out⟩, ⟨by (with_reducible repeat (first | refine blk_drewN ?_ _ | refine blk_drew ?_ | refine blk_alloc ?_ _)); exact BK103.out⟩, ⟨by (with_reducible repeat (first | refine blk_drewN ?_ _ | refine blk_drew ?_ | refine blk_alloc ?_ _)); exact BK104.out⟩, ⟨by repeat (first | (with_reducible first | exact HB.out | apply below_alloc | apply pw_below_drewN | apply below_drew1 | refine below_set ?_ GE103.out | refine below_set ?_ GE104.out) | exact HB.out)⟩⟩
        · replace c23 := Bool.eq_false_iff.mpr c23
          subst c23
          have H1 : (rlog_Join.j1 kj4 x1_4 x3_4 true a0_0 a0_1 a0_2 l0_3) = some (r1, r2, r3, r4, r5, r6) := by rw [if_neg (show ¬ (false = true) by decide)] at H; exact H
          clear H
          have H := H1
          clear H1
          have H' := Aside0.mk H
          clear H
          go_wp2
          go_meet
          case rel => exact ⟨_, (true), (by first | rfl | (simp; done) | (simp [*]; done)), H', ⟨by have := HJ4.out; first | omega | exact Nat.le_refl _⟩, ⟨by (with_reducible repeat (first | apply Kd.V_alloc | apply Kd.V_drewN | apply Kd.V_drew)); exact HO_3.out⟩, ⟨by (with_reducible repeat (first | apply Kd.V_alloc | apply Kd.V_drewN | apply Kd.V_drew)); exact HO_104003.out⟩, ⟨by (with_reducible repeat (first | refine blk_drewN ?_ _ | refine blk_drew ?_ | refine blk_alloc ?_ _)); exact BK103.out⟩, ⟨by (with_reducible repeat (first | refine blk_drewN ?_ _ | refine blk_drew ?_ | refine blk_alloc ?_ _)); exact BK104.out⟩, ⟨by repeat (first | (with_reducible first | exact HB.out | apply below_alloc | apply pw_below_drewN | apply below_drew1 | refine below_set ?_ GE103.out | refine below_set ?_ GE104.out) | exact HB.out)⟩⟩
      case rest =>
        clear HC19
        try clear c1
        try clear q1
        try clear c2
        try clear p2
        try clear c3
        try clear c8
        try clear c10
        try clear c10b0
        try clear c12
        try clear c12b0
        try clear c12b1
        try clear c13
        try clear c13b0
        try clear c13b1
        try clear c14
        try clear c16
        try clear q16
        try clear c20
        try clear c23
        try clear hcz15_0
        try clear hcz15_1
        try clear hcz15_2
        try clear hcz15_3
        try clear hcz21_0
        try clear hcz21_1
        try clear hcz21_2
        try clear hcz21_3
        try clear hcz9_0
        try clear hcz9_1
        try clear hcz9_2
        try clear hcz9_3
        try clear hfz15_0
        try clear hfz15_1
        try clear hfz15_2
        try clear hfz15_3
        try clear hfz21_0
        try clear hfz21_1
        try clear hfz21_2
        try clear hfz21_3
        try clear hfz9_0
        try clear hfz9_1
        try clear hfz9_2
        try clear hfz9_3
        try clear p2
        try clear q016
        try clear q1
        try clear q16
        obtain ⟨kq, x50_18, rfl, HA, HJ18, HO_3, HO_104003, BK103, BK104, HB⟩ := hcut
        cases kq with
        | zero => exact absurd HA.out (by simp [rlog_Join.j1])
        | succ kj18 =>
          have H := HA.out
          clear HA
          simp only [rlog_Join.j1] at H
          by_cases c24 : x50_18 = true
          · subst c24
            have H1 : (some (a0_0, a0_1, a0_2, l0_3, 0, false)) = some (r1, r2, r3, r4, r5, r6) := by rw [if_pos rfl] at H; exact H
            clear H
            have H := H1
            clear H1
            simp only [Option.some.injEq, Prod.mk.injEq] at H
            obtain ⟨rfl, rfl, rfl, rfl, rfl, rfl⟩ := H
            have hnb25 := NB103_104.out
            have hnc25 := NB104_103.out
            have hcz26_0 : wc.cell? ⟨gb103, 0, none⟩ = some (.int .u64 a0_0) := (blk_cell BK103.out 0).trans rfl
            have hcz26_1 : wc.cell? ⟨gb103, 1, none⟩ = some (.int .u64 a0_1) := (blk_cell BK103.out 1).trans rfl
            have hcz26_2 : wc.cell? ⟨gb103, 2, none⟩ = some (.string a0_2) := (blk_cell BK103.out 2).trans rfl
            have hcz26_3 : wc.cell? ⟨gb103, 3, none⟩ = some (.slice A0_3 l0_3.length c0_3) := (blk_cell BK103.out 3).trans rfl
            have hfz26_0 := blk_frozen BK103.out 0
            have hfz26_1 := blk_frozen BK103.out 1
            have hfz26_2 := blk_frozen BK103.out 2
            have hfz26_3 := blk_frozen BK103.out 3
            have hcz27_0 : wc.cell? ⟨gb104, 0, none⟩ = some (.int .u64 0) := (blk_cell BK104.out 0).trans rfl
            have hcz27_1 : wc.cell? ⟨gb104, 1, none⟩ = some (.int .u64 0) := (blk_cell BK104.out 1).trans rfl
            have hcz27_2 : wc.cell? ⟨gb104, 2, none⟩ = some (.string (⟨#[]⟩ : ByteArray)) := (blk_cell BK104.out 2).trans rfl
            have hcz27_3 : wc.cell? ⟨gb104, 3, none⟩ = some (.slice none 0 0) := (blk_cell BK104.out 3).trans rfl
            have hfz27_0 := blk_frozen BK104.out 0
            have hfz27_1 := blk_frozen BK104.out 1
            have hfz27_2 := blk_frozen BK104.out 2
            have hfz27_3 := blk_frozen BK104.out 3
            go_wp2
            refine bodyPost_ret (results_ctt rfl _ _ gb104 25 #[.int .u64 a0_0, .int .u64 a0_1, .string a0_2, .slice A0_3 l0_3.length c0_3] (0, 0) _ rfl (by (with_reducible repeat (first | refine blk_drewN ?_ _ | refine blk_drew ?_ | refine blk_alloc ?_ _)); refine blk_put (cs := #[.int .u64 a0_0, .int .u64 a0_1, .string a0_2, .slice none 0 0]) ?_ 3 _ rfl; (with_reducible repeat (first | refine blk_drewN ?_ _ | refine blk_drew ?_ | refine blk_alloc ?_ _)); refine blk_put (cs := #[.int .u64 a0_0, .int .u64 a0_1, .string (⟨#[]⟩ : ByteArray), .slice none 0 0]) ?_ 2 _ rfl; (with_reducible repeat (first | refine blk_drewN ?_ _ | refine blk_drew ?_ | refine blk_alloc ?_ _)); refine blk_put (cs := #[.int .u64 a0_0, .int .u64 0, .string (⟨#[]⟩ : ByteArray), .slice none 0 0]) ?_ 1 _ rfl; (with_reducible repeat (first | refine blk_drewN ?_ _ | refine blk_drew ?_ | refine blk_alloc ?_ _)); refine blk_put (cs := #[.int .u64 0, .int .u64 0, .string (⟨#[]⟩ : ByteArray), .slice none 0 0]) ?_ 0 _ rfl; (with_reducible repeat (first | refine blk_drewN ?_ _ | refine blk_drew ?_ | refine blk_alloc ?_ _)); exact BK104.out) Try.underlying25 rfl (by kernel_rfl)) rfl ?_
            exact ⟨_, by first | rfl | (simp [errW_none, errW_some] <;> rfl) | (simp [*, errW_none, errW_some] <;> rfl), by (with_reducible repeat (first | apply Kd.V_alloc | apply Kd.V_drewN | apply Kd.V_drew)); exact Kd.V_mono (Kd.V_far (p := ⟨gb104, 3, none⟩) (Kd.V_far (p := ⟨gb104, 2, none⟩) (Kd.V_far (p := ⟨gb104, 1, none⟩) (Kd.V_far (p := ⟨gb104, 0, none⟩) (Kd.V_mono HO_104003.out (fun k_ hk => (⟨hk, hk.2.2⟩ : _ ∧ k_ ≠ gb104))) (fun _ hk => hk.2) (.int .u64 a0_0)) (fun _ hk => hk.2) (.int .u64 a0_1)) (fun _ hk => hk.2) (.string a0_2)) (fun _ hk => hk.2) (.slice A0_3 l0_3.length c0_3)) (fun _ hk => hk.1.1), by repeat (first | (with_reducible first | exact HB.out | apply below_alloc | apply pw_below_drewN | apply below_drew1 | refine below_set ?_ GE103.out | refine below_set ?_ GE104.out) | exact HB.out)⟩
          · replace c24 := Bool.eq_false_iff.mpr c24
            subst c24
            have H1 : (rlog_Join.l0 kj18 x1_4 x3_4 x3_4 (x3_4.length : Int) 0 a0_0 a0_1 a0_2 l0_3) = some (r1, r2, r3, r4, r5, r6) := by rw [if_neg (show ¬ (false = true) by decide)] at H; exact H
            clear H
            have H := H1
            clear H1
            have H' := Aside0.mk H
            clear H
            obtain ⟨Ao28, co28, eo28⟩ := Kd.V_slice HO_3.out
            subst eo28
            go_wp2
            go_loopg [54] kj18 (fun kq v54 w' => ∃ (x54_3 : Int) (x105000_3 : Int) (x105001_3 : Int) (x105002_3 : ByteArray), v54 = .int .i64 x54_3 ∧ Aside0 (rlog_Join.l0 kq x1_4 x3_4 x3_4 (x3_4.length : Int) x54_3 a0_0 a0_1 a0_2 l0_3 = some (r1, r2, r3, r4, r5, r6)) ∧ Aside0 (kq ≤ kj18) ∧ Aside0 (Kd.V k36 36 w' w.heap.size (fun k_ => ((P0_3_ k_ ∨ P3_ k_) ∨ w.heap.size ≤ k_) ∧ k_ ≠ gb103 ∧ k_ ≠ gb104) (.slice Ao28 x3_4.length co28) x3_4) ∧ Aside0 (Kd.V k36 36 w' w.heap.size (fun k_ => ((P0_3_ k_ ∨ P3_ k_) ∨ w.heap.size ≤ k_) ∧ k_ ≠ gb103 ∧ k_ ≠ gb104) (.slice Ao28 x3_4.length co28) x3_4) ∧ Aside0 (Kd.V k36 36 w' w.heap.size (fun k_ => ((P0_3_ k_ ∨ P3_ k_) ∨ w.heap.size ≤ k_) ∧ k_ ≠ gb103 ∧ k_ ≠ gb104) (.slice A0_3 l0_3.length c0_3) l0_3) ∧ Aside0 (w'.heap[gb103]? = some (.cells #[.int .u64 a0_0, .int .u64 a0_1, .string a0_2, (.slice A0_3 l0_3.length c0_3)] 25 (0, 0))) ∧ Aside0 (w'.heap[gb104]? = some (.cells #[.int .u64 x105000_3, .int .u64 x105001_3, .string x105002_3, (.slice none 0 0)] 25 (0, 0))) ∧ Aside0 (Below w.heap.size w w'))
            case atStart => exact ⟨(0), (0), (0), ((⟨#[]⟩ : ByteArray)), (by first | rfl | (simp; done) | (simp [*]; done)), H', ⟨Nat.le_refl _⟩, ⟨by (with_reducible repeat (first | apply Kd.V_alloc | apply Kd.V_drewN | apply Kd.V_drew)); exact HO_3.out⟩, ⟨by (with_reducible repeat (first | apply Kd.V_alloc | apply Kd.V_drewN | apply Kd.V_drew)); exact HO_3.out⟩, ⟨by (with_reducible repeat (first | apply Kd.V_alloc | apply Kd.V_drewN | apply Kd.V_drew)); exact HO_104003.out⟩, ⟨by (with_reducible repeat (first | refine blk_drewN ?_ _ | refine blk_drew ?_ | refine blk_alloc ?_ _)); exact BK103.out⟩, ⟨by (with_reducible repeat (first | refine blk_drewN ?_ _ | refine blk_drew ?_ | refine blk_alloc ?_ _)); exact BK104.out⟩, ⟨by repeat (first | (with_reducible first | exact HB.out | apply below_alloc | apply pw_below_drewN | apply below_drew1 | refine below_set ?_ GE103.out | refine below_set ?_ GE104.out) | exact HB.out)⟩⟩
            case round =>
              clear H'
              try clear c1
              try clear q1
              try clear c2
              try clear p2
              try clear c3
              try clear c8
              try clear c10
              try clear c10b0
              try clear c12
              try clear c12b0
              try clear c12b1
              try clear c13
              try clear c13b0
              try clear c13b1
              try clear c14
              try clear c16
              try clear q16
              try clear c20
              try clear c23
              try clear c24
              try clear c25
              try clear hcz15_0
              try clear hcz15_1
              try clear hcz15_2
              try clear hcz15_3
              try clear hcz21_0
              try clear hcz21_1
              try clear hcz21_2
              try clear hcz21_3
              try clear hcz26_0
              try clear hcz26_1
              try clear hcz26_2
              try clear hcz26_3
              try clear hcz27_0
              try clear hcz27_1
              try clear hcz27_2
              try clear hcz27_3
              try clear hcz9_0
              try clear hcz9_1
              try clear hcz9_2
              try clear hcz9_3
              try clear hfz15_0
              try clear hfz15_1
              try clear hfz15_2
              try clear hfz15_3
              try clear hfz21_0
              try clear hfz21_1
              try clear hfz21_2
              try clear hfz21_3
              try clear hfz26_0
              try clear hfz26_1
              try clear hfz26_2
              try clear hfz26_3
              try clear hfz27_0
              try clear hfz27_1
              try clear hfz27_2
              try clear hfz27_3
              try clear hfz9_0
              try clear hfz9_1
              try clear hfz9_2
              try clear hfz9_3
              try clear p2
              try clear q016
              try clear q1
              try clear q16
              obtain ⟨x54_3, x105000_3, x105001_3, x105002_3, rfl, HA, HK3, HO_3, HO_52, HO_104003, BK103, BK104, HB⟩ := hrel
              cases gk with
              | zero => exact absurd HA.out (by simp [rlog_Join.l0])
              | succ k3 =>
                have H := HA.out
                clear HA
                simp only [rlog_Join.l0] at H
                by_cases c29 : x54_3 < (x3_4.length : Int)
                · rw [if_pos c29] at H
                  have c29b0 : decide (x54_3 < (x3_4.length : Int)) = true := decide_eq_true c29
                  clear c29
                  by_cases c30 : 0 ≤ x54_3
                  · rw [if_pos c30] at H
                    have c30b0 : decide (0 ≤ x54_3) = true := decide_eq_true c30
                    clear c30
                    by_cases c31 : x54_3 < (x3_4.length : Int)
                    · rw [if_pos c31] at H
                      have c31b0 : decide (x54_3 < (x3_4.length : Int)) = true := decide_eq_true c31
                      clear c31
                      replace H := Option.bind_eq_some_iff.mp H
                      obtain ⟨⟨t114, t115⟩, A320, H⟩ := H
                      replace H : (if t115 = true then (rlog_Join.j3 k3 x1_4 x3_4 x54_3 (IntKind.u64.wrap ((IntKind.u64.wrap (x1_4 + (IntKind.u64.wrap (x54_3)))) + 1)) x3_4 (x3_4.length : Int) x54_3 (t114 == ((rd_T36 x3_4 x54_3).f0)) a0_0 a0_1 a0_2 l0_3) else (rlog_Join.j3 k3 x1_4 x3_4 x54_3 (IntKind.u64.wrap ((IntKind.u64.wrap (x1_4 + (IntKind.u64.wrap (x54_3)))) + 1)) x3_4 (x3_4.length : Int) x54_3 false a0_0 a0_1 a0_2 l0_3)) = some (r1, r2, r3, r4, r5, r6) := H
                      have A32 := Aside0.mk A320
                      clear A320
                      have HC33 := Aside0.mk H
                      clear H
                      have p112 : 0 ≤ (x54_3 : Int) := of_decide_eq_true (by first | (with_reducible assumption) | assumption)
                      have q112 : x54_3 < (x3_4.length : Int) := of_decide_eq_true (by first | (with_reducible assumption) | assumption)
                      obtain ⟨ad112, e112, hx112_0, hx112_1⟩ := at_T36 (Kd.V_reads' HO_52.out).2.2 x54_3 p112 q112
                      cases e112
                      replace p112 := eq_true p112
                      replace q112 := eq_true q112
                      go_upto_region 12 with (first | ((with_reducible refine gate_dst (N := 14) rfl ?_); (try (refine gate_guard (by rfl) ?_; dsimp only)); refine box_event ?hg (N := 14) ?hd (cs := #[.int .u64 0, .string (⟨#[]⟩ : ByteArray)]) (t := 36) ?hr ?_; (case hd => rfl); (case hg => rfl); (case hr => first | (go_simp; done) | (go_simp; rfl)); intro gb113 hg w34 hbox hb; have n0_ := Aside0.mk (Kd.V_below (Kd.V_elderB (by (with_reducible repeat (first | apply Kd.V_alloc | apply Kd.V_drewN | apply Kd.V_drew)); exact HO_3.out) gb113 (Nat.le_of_eq hg.symm)) hb); have n1_ := Aside0.mk (Kd.V_below (Kd.V_elderB (by (with_reducible repeat (first | apply Kd.V_alloc | apply Kd.V_drewN | apply Kd.V_drew)); exact HO_52.out) gb113 (Nat.le_of_eq hg.symm)) hb); have n2_ := Aside0.mk (Kd.V_below (Kd.V_elderB (by (with_reducible repeat (first | apply Kd.V_alloc | apply Kd.V_drewN | apply Kd.V_drew)); exact HO_104003.out) gb113 (Nat.le_of_eq hg.symm)) hb); have n3_ := Aside0.mk (blk_below (g := gb103) (o := .cells #[.int .u64 a0_0, .int .u64 a0_1, .string a0_2, .slice A0_3 l0_3.length c0_3] 25 (0, 0)) (by (with_reducible repeat (first | refine blk_drewN ?_ _ | refine blk_drew ?_ | refine blk_alloc ?_ _)); exact BK103.out) hb); have n4_ := Aside0.mk (blk_below (g := gb104) (o := .cells #[.int .u64 x105000_3, .int .u64 x105001_3, .string x105002_3, .slice none 0 0] 25 (0, 0)) (by (with_reducible repeat (first | refine blk_drewN ?_ _ | refine blk_drew ?_ | refine blk_alloc ?_ _)); exact BK104.out) hb); have n5_ := Aside0.mk (below_step (by repeat (first | (with_reducible first | exact HB.out | apply below_alloc | apply pw_below_drewN | apply below_drew1 | refine below_set ?_ GE103.out | refine below_set ?_ GE104.out) | exact HB.out)) hb); have n6_ := Aside0.mk (hbox); have n7_ := Aside0.mk ((by rw [hg]; exact (below_size (by repeat (first | (with_reducible first | exact HB.out | apply below_alloc | apply pw_below_drewN | apply below_drew1 | refine below_set ?_ GE103.out | refine below_set ?_ GE104.out) | exact HB.out))) : w.heap.size ≤ gb113)); have n8_ := Aside0.mk ((by rw [hg]; exact (below_size (by repeat (first | (with_reducible first | exact HB.out | apply below_alloc | apply pw_below_drewN | apply below_drew1 | refine below_set ?_ GE103.out | refine below_set ?_ GE104.out) | exact HB.out))) : w.heap.size ≤ gb113)); have n9_ := Aside0.mk ((by rw [hg]; exact Nat.ne_of_lt (blk_lt (g := gb103) (o := .cells #[.int .u64 a0_0, .int .u64 a0_1, .string a0_2, .slice A0_3 l0_3.length c0_3] 25 (0, 0)) (by (with_reducible repeat (first | refine blk_drewN ?_ _ | refine blk_drew ?_ | refine blk_alloc ?_ _)); exact BK103.out)) : gb103 ≠ gb113)); have n10_ := Aside0.mk ((by rw [hg]; exact Nat.ne_of_gt (blk_lt (g := gb103) (o := .cells #[.int .u64 a0_0, .int .u64 a0_1, .string a0_2, .slice A0_3 l0_3.length c0_3] 25 (0, 0)) (by (with_reducible repeat (first | refine blk_drewN ?_ _ | refine blk_drew ?_ | refine blk_alloc ?_ _)); exact BK103.out)) : gb113 ≠ gb103)); have n11_ := Aside0.mk ((by rw [hg]; exact Nat.ne_of_lt (blk_lt (g := gb104) (o := .cells #[.int .u64 x105000_3, .int .u64 x105001_3, .string x105002_3, .slice none 0 0] 25 (0, 0)) (by (with_reducible repeat (first | refine blk_drewN ?_ _ | refine blk_drew ?_ | refine blk_alloc ?_ _)); exact BK104.out)) : gb104 ≠ gb113)); have n12_ := Aside0.mk ((by rw [hg]; exact Nat.ne_of_gt (blk_lt (g := gb104) (o := .cells #[.int .u64 x105000_3, .int .u64 x105001_3, .string x105002_3, .slice none 0 0] 25 (0, 0)) (by (with_reducible repeat (first | refine blk_drewN ?_ _ | refine blk_drew ?_ | refine blk_alloc ?_ _)); exact BK104.out)) : gb113 ≠ gb104)); clear HO_3; clear HO_52; clear HO_104003; clear BK103; clear BK104; clear HB; have HO_3 := n0_; have HO_52 := n1_; have HO_104003 := n2_; have BK103 := n3_; have BK104 := n4_; have HB := n5_; have BK113 := n6_; have GW113 := n7_; have GE113 := n8_; have NB103_113 := n9_; have NB113_103 := n10_; have NB104_113 := n11_; have NB113_104 := n12_; clear n0_ n1_ n2_ n3_ n4_ n5_ n6_ n7_ n8_ n9_ n10_ n11_ n12_; clear hb hbox hg; have hnb35 := NB113_103.out; have hnc35 := NB103_113.out; have hnb36 := NB113_104.out; have hnc36 := NB104_113.out; have hcz37_0 : w34.cell? ⟨gb113, 0, none⟩ = some (.int .u64 0) := (blk_cell BK113.out 0).trans rfl; have hcz37_1 : w34.cell? ⟨gb113, 1, none⟩ = some (.string (⟨#[]⟩ : ByteArray)) := (blk_cell BK113.out 1).trans rfl; have hfz37_0 := blk_frozen BK113.out 0; have hfz37_1 := blk_frozen BK113.out 1; have hnb38 := NB103_104.out; have hnc38 := NB104_103.out; have hcz39_0 : w34.cell? ⟨gb103, 0, none⟩ = some (.int .u64 a0_0) := (blk_cell BK103.out 0).trans rfl; have hcz39_1 : w34.cell? ⟨gb103, 1, none⟩ = some (.int .u64 a0_1) := (blk_cell BK103.out 1).trans rfl; have hcz39_2 : w34.cell? ⟨gb103, 2, none⟩ = some (.string a0_2) := (blk_cell BK103.out 2).trans rfl; have hcz39_3 : w34.cell? ⟨gb103, 3, none⟩ = some (.slice A0_3 l0_3.length c0_3) := (blk_cell BK103.out 3).trans rfl; have hfz39_0 := blk_frozen BK103.out 0; have hfz39_1 := blk_frozen BK103.out 1; have hfz39_2 := blk_frozen BK103.out 2; have hfz39_3 := blk_frozen BK103.out 3) | ((with_reducible refine gate_callee (f := 13) rfl ?_); refine goesL_ (some 67) rfl rfl Try.func13 (by kernel_rfl) rfl #[.agg #[.int .u64 a0_0, .int .u64 a0_1, .string a0_2, .slice A0_3 l0_3.length c0_3], .int .u64 (IntKind.u64.wrap ((IntKind.u64.wrap (x1_4 + (IntKind.u64.wrap (x54_3)))) + 1))] rfl (by (try simp only [List.map_toArray, List.map_cons, List.map_nil]); first | done | rfl | (simp only [List.length_drop, List.length_take]; rfl)) ?_; (with_reducible refine (rlog_TermAt.calls a0_0 a0_1 a0_2 _ _ l0_3 (IntKind.u64.wrap ((IntKind.u64.wrap (x1_4 + (IntKind.u64.wrap (x54_3)))) + 1)) t114 t115 _ ?side1 ?side2 A32.out).mono ?_); (case side1 => refine (Kd.V_reads' (e := 36) (base := w.heap.size) (ok := fun k_ => ((((P0_3_ k_ ∨ P3_ k_) ∨ w.heap.size ≤ k_) ∧ (k_ ≠ gb103 ∧ k_ ≠ gb104)) ∧ k_ ≠ gb113)) (n := l0_3.length) (c := c0_3) ?_).2.2; exact (by (with_reducible repeat (first | apply Kd.V_alloc | apply Kd.V_drewN | apply Kd.V_drew)); exact (Kd.V_mono (Kd.V_far (p := ⟨gb113, 1, none⟩) (Kd.V_far (p := ⟨gb113, 0, none⟩) (Kd.V_mono HO_104003.out (fun k_ hk => (⟨hk, hk.2⟩ : _ ∧ k_ ≠ gb113))) (fun _ hk => hk.2) (.int .u64 ((rd_T36 x3_4 x54_3).f0))) (fun _ hk => hk.2) (.string ((rd_T36 x3_4 x54_3).f1))) (fun _ h_ => h_.1)))); (case side2 => exact (Kd.V_reads' HO_104003.out).2.1); rintro e w40 ⟨rfl, hb⟩; refine ⟨_, rfl, ?_⟩; have n0_ := Aside0.mk (Kd.V_below (by (with_reducible repeat (first | apply Kd.V_alloc | apply Kd.V_drewN | apply Kd.V_drew)); exact (Kd.V_mono (Kd.V_far (p := ⟨gb113, 1, none⟩) (Kd.V_far (p := ⟨gb113, 0, none⟩) (Kd.V_mono HO_3.out (fun k_ hk => (⟨hk, hk.2⟩ : _ ∧ k_ ≠ gb113))) (fun _ hk => hk.2) (.int .u64 ((rd_T36 x3_4 x54_3).f0))) (fun _ hk => hk.2) (.string ((rd_T36 x3_4 x54_3).f1))) (fun _ h_ => h_.1))) hb); have n1_ := Aside0.mk (Kd.V_below (by (with_reducible repeat (first | apply Kd.V_alloc | apply Kd.V_drewN | apply Kd.V_drew)); exact (Kd.V_mono (Kd.V_far (p := ⟨gb113, 1, none⟩) (Kd.V_far (p := ⟨gb113, 0, none⟩) (Kd.V_mono HO_52.out (fun k_ hk => (⟨hk, hk.2⟩ : _ ∧ k_ ≠ gb113))) (fun _ hk => hk.2) (.int .u64 ((rd_T36 x3_4 x54_3).f0))) (fun _ hk => hk.2) (.string ((rd_T36 x3_4 x54_3).f1))) (fun _ h_ => h_.1))) hb); have n2_ := Aside0.mk (Kd.V_below (by (with_reducible repeat (first | apply Kd.V_alloc | apply Kd.V_drewN | apply Kd.V_drew)); exact (Kd.V_mono (Kd.V_far (p := ⟨gb113, 1, none⟩) (Kd.V_far (p := ⟨gb113, 0, none⟩) (Kd.V_mono HO_104003.out (fun k_ hk => (⟨hk, hk.2⟩ : _ ∧ k_ ≠ gb113))) (fun _ hk => hk.2) (.int .u64 ((rd_T36 x3_4 x54_3).f0))) (fun _ hk => hk.2) (.string ((rd_T36 x3_4 x54_3).f1))) (fun _ h_ => h_.1))) hb); have n3_ := Aside0.mk (blk_below (g := gb103) (o := .cells #[.int .u64 a0_0, .int .u64 a0_1, .string a0_2, .slice A0_3 l0_3.length c0_3] 25 (0, 0)) (by (with_reducible repeat (first | refine blk_drewN ?_ _ | refine blk_drew ?_ | refine blk_alloc ?_ _)); refine blk_far ?_ NB103_113.out _; (with_reducible repeat (first | refine blk_drewN ?_ _ | refine blk_drew ?_ | refine blk_alloc ?_ _)); refine blk_far ?_ NB103_113.out _; (with_reducible repeat (first | refine blk_drewN ?_ _ | refine blk_drew ?_ | refine blk_alloc ?_ _)); exact BK103.out) hb); have n4_ := Aside0.mk (blk_below (g := gb104) (o := .cells #[.int .u64 x105000_3, .int .u64 x105001_3, .string x105002_3, .slice none 0 0] 25 (0, 0)) (by (with_reducible repeat (first | refine blk_drewN ?_ _ | refine blk_drew ?_ | refine blk_alloc ?_ _)); refine blk_far ?_ NB104_113.out _; (with_reducible repeat (first | refine blk_drewN ?_ _ | refine blk_drew ?_ | refine blk_alloc ?_ _)); refine blk_far ?_ NB104_113.out _; (with_reducible repeat (first | refine blk_drewN ?_ _ | refine blk_drew ?_ | refine blk_alloc ?_ _)); exact BK104.out) hb); have n5_ := Aside0.mk (blk_below (g := gb113) (o := .cells #[.int .u64 ((rd_T36 x3_4 x54_3).f0), .string ((rd_T36 x3_4 x54_3).f1)] 36 (0, 0)) (by (with_reducible repeat (first | refine blk_drewN ?_ _ | refine blk_drew ?_ | refine blk_alloc ?_ _)); refine blk_put (cs := #[.int .u64 ((rd_T36 x3_4 x54_3).f0), .string (⟨#[]⟩ : ByteArray)]) ?_ 1 _ rfl; (with_reducible repeat (first | refine blk_drewN ?_ _ | refine blk_drew ?_ | refine blk_alloc ?_ _)); refine blk_put (cs := #[.int .u64 0, .string (⟨#[]⟩ : ByteArray)]) ?_ 0 _ rfl; (with_reducible repeat (first | refine blk_drewN ?_ _ | refine blk_drew ?_ | refine blk_alloc ?_ _)); exact BK113.out) hb); have n6_ := Aside0.mk (below_step (by repeat (first | (with_reducible first | exact HB.out | apply below_alloc | apply pw_below_drewN | apply below_drew1 | refine below_set ?_ GE103.out | refine below_set ?_ GE104.out | refine below_set ?_ GE113.out) | exact HB.out)) hb); clear HO_3; clear HO_52; clear HO_104003; clear BK103; clear BK104; clear BK113; clear HB; have HO_3 := n0_; have HO_52 := n1_; have HO_104003 := n2_; have BK103 := n3_; have BK104 := n4_; have BK113 := n5_; have HB := n6_; clear n0_ n1_ n2_ n3_ n4_ n5_ n6_; (try clear hb); (try clear hb2); (try clear hk); (try clear hi)))
                      (try simp only [Act.put, List.setIfInBounds_toArray, List.set_cons_zero, List.set_cons_succ])
                      go_cut [76] (fun v76 wc => ∃ (kq : Nat) (x76_32 : Bool), v76 = .bool x76_32 ∧ Aside0 (rlog_Join.j3 kq x1_4 x3_4 x54_3 (IntKind.u64.wrap ((IntKind.u64.wrap (x1_4 + (IntKind.u64.wrap (x54_3)))) + 1)) x3_4 (x3_4.length : Int) x54_3 x76_32 a0_0 a0_1 a0_2 l0_3 = some (r1, r2, r3, r4, r5, r6)) ∧ Aside0 (kq ≤ k3) ∧ Aside0 (Kd.V k36 36 wc w.heap.size (fun k_ => ((P0_3_ k_ ∨ P3_ k_) ∨ w.heap.size ≤ k_) ∧ k_ ≠ gb103 ∧ k_ ≠ gb104 ∧ k_ ≠ gb113) (.slice (some ad112) x3_4.length co28) x3_4) ∧ Aside0 (Kd.V k36 36 wc w.heap.size (fun k_ => ((P0_3_ k_ ∨ P3_ k_) ∨ w.heap.size ≤ k_) ∧ k_ ≠ gb103 ∧ k_ ≠ gb104 ∧ k_ ≠ gb113) (.slice (some ad112) x3_4.length co28) x3_4) ∧ Aside0 (Kd.V k36 36 wc w.heap.size (fun k_ => ((P0_3_ k_ ∨ P3_ k_) ∨ w.heap.size ≤ k_) ∧ k_ ≠ gb103 ∧ k_ ≠ gb104 ∧ k_ ≠ gb113) (.slice A0_3 l0_3.length c0_3) l0_3) ∧ Aside0 (wc.heap[gb103]? = some (.cells #[.int .u64 a0_0, .int .u64 a0_1, .string a0_2, (.slice A0_3 l0_3.length c0_3)] 25 (0, 0))) ∧ Aside0 (wc.heap[gb104]? = some (.cells #[.int .u64 x105000_3, .int .u64 x105001_3, .string x105002_3, (.slice none 0 0)] 25 (0, 0))) ∧ Aside0 (wc.heap[gb113]? = some (.cells #[.int .u64 ((rd_T36 x3_4 x54_3).f0), .string ((rd_T36 x3_4 x54_3).f1)] 36 (0, 0))) ∧ Aside0 (Below w.heap.size w wc))
                      case first =>
                        have H := HC33.out
                        clear HC33
                        by_cases c41 : t115 = true
                        · subst c41
                          have H1 : (rlog_Join.j3 k3 x1_4 x3_4 x54_3 (IntKind.u64.wrap ((IntKind.u64.wrap (x1_4 + (IntKind.u64.wrap (x54_3)))) + 1)) x3_4 (x3_4.length : Int) x54_3 (t114 == ((rd_T36 x3_4 x54_3).f0)) a0_0 a0_1 a0_2 l0_3) = some (r1, r2, r3, r4, r5, r6) := by rw [if_pos rfl] at H; exact H
                          clear H
                          have H := H1
                          clear H1
                          have H' := Aside0.mk H
                          clear H
                          have hnb42 := NB113_103.out
                          have hnc42 := NB103_113.out
                          have hnb43 := NB113_104.out
                          have hnc43 := NB104_113.out
                          have hcz44_0 : w40.cell? ⟨gb113, 0, none⟩ = some (.int .u64 ((rd_T36 x3_4 x54_3).f0)) := (blk_cell BK113.out 0).trans rfl
                          have hcz44_1 : w40.cell? ⟨gb113, 1, none⟩ = some (.string ((rd_T36 x3_4 x54_3).f1)) := (blk_cell BK113.out 1).trans rfl
                          have hfz44_0 := blk_frozen BK113.out 0
                          have hfz44_1 := blk_frozen BK113.out 1
                          go_wp2
                          go_meet
                          case rel => exact ⟨_, ((t114 == ((rd_T36 x3_4 x54_3).f0))), (by first | rfl | (simp; done) | (simp [*]; done)), H', ⟨by have := HJ4.out; have := HJ18.out; have := HK3.out; first | omega | exact Nat.le_refl _⟩, ⟨by (with_reducible repeat (first | apply Kd.V_alloc | apply Kd.V_drewN | apply Kd.V_drew)); exact Kd.V_mono HO_3.out (fun _ hk => ⟨hk.1.1, ⟨hk.1.2.1, ⟨hk.1.2.2, hk.2⟩⟩⟩)⟩, ⟨by (with_reducible repeat (first | apply Kd.V_alloc | apply Kd.V_drewN | apply Kd.V_drew)); exact Kd.V_mono HO_52.out (fun _ hk => ⟨hk.1.1, ⟨hk.1.2.1, ⟨hk.1.2.2, hk.2⟩⟩⟩)⟩, ⟨by (with_reducible repeat (first | apply Kd.V_alloc | apply Kd.V_drewN | apply Kd.V_drew)); exact Kd.V_mono HO_104003.out (fun _ hk => ⟨hk.1.1, ⟨hk.1.2.1, ⟨hk.1.2.2, hk.2⟩⟩⟩)⟩, ⟨by (with_reducible repeat (first | refine blk_drewN ?_ _ | refine blk_drew ?_ | refine blk_alloc ?_ _)); exact BK103.out⟩, ⟨by (with_reducible repeat (first | refine blk_drewN ?_ _ | refine blk_drew ?_ | refine blk_alloc ?_ _)); exact BK104.out⟩, ⟨by (with_reducible repeat (first | refine blk_drewN ?_ _ | refine blk_drew ?_ | refine blk_alloc ?_ _)); exact BK113.out⟩, ⟨by repeat (first | (with_reducible first | exact HB.out | apply below_alloc | apply pw_below_drewN | apply below_drew1 | refine below_set ?_ GE103.out | refine below_set ?_ GE104.out | refine below_set ?_ GE113.out) | exact HB.out)⟩⟩
                        · replace c41 := Bool.eq_false_iff.mpr c41
                          subst c41
                          have H1 : (rlog_Join.j3 k3 x1_4 x3_4 x54_3 (IntKind.u64.wrap ((IntKind.u64.wrap (x1_4 + (IntKind.u64.wrap (x54_3)))) + 1)) x3_4 (x3_4.length : Int) x54_3 false a0_0 a0_1 a0_2 l0_3) = some (r1, r2, r3, r4, r5, r6) := by rw [if_neg (show ¬ (false = true) by decide)] at H; exact H
                          clear H
                          have H := H1
                          clear H1
                          have H' := Aside0.mk H
                          clear H
                          go_wp2
                          go_meet
                          case rel => exact ⟨_, (false), (by first | rfl | (simp; done) | (simp [*]; done)), H', ⟨by have := HJ4.out; have := HJ18.out; have := HK3.out; first | omega | exact Nat.le_refl _⟩, ⟨by (with_reducible repeat (first | apply Kd.V_alloc | apply Kd.V_drewN | apply Kd.V_drew)); exact Kd.V_mono HO_3.out (fun _ hk => ⟨hk.1.1, ⟨hk.1.2.1, ⟨hk.1.2.2, hk.2⟩⟩⟩)⟩, ⟨by (with_reducible repeat (first | apply Kd.V_alloc | apply Kd.V_drewN | apply Kd.V_drew)); exact Kd.V_mono HO_52.out (fun _ hk => ⟨hk.1.1, ⟨hk.1.2.1, ⟨hk.1.2.2, hk.2⟩⟩⟩)⟩, ⟨by (with_reducible repeat (first | apply Kd.V_alloc | apply Kd.V_drewN | apply Kd.V_drew)); exact Kd.V_mono HO_104003.out (fun _ hk => ⟨hk.1.1, ⟨hk.1.2.1, ⟨hk.1.2.2, hk.2⟩⟩⟩)⟩, ⟨by (with_reducible repeat (first | refine blk_drewN ?_ _ | refine blk_drew ?_ | refine blk_alloc ?_ _)); exact BK103.out⟩, ⟨by (with_reducible repeat (first | refine blk_drewN ?_ _ | refine blk_drew ?_ | refine blk_alloc ?_ _)); exact BK104.out⟩, ⟨by (with_reducible repeat (first | refine blk_drewN ?_ _ | refine blk_drew ?_ | refine blk_alloc ?_ _)); exact BK113.out⟩, ⟨by repeat (first | (with_reducible first | exact HB.out | apply below_alloc | apply pw_below_drewN | apply below_drew1 | refine below_set ?_ GE103.out | refine below_set ?_ GE104.out | refine below_set ?_ GE113.out) | exact HB.out)⟩⟩
                      case rest =>
                        clear HC33
                        try clear c1
                        try clear p1
                        try clear q1
                        try clear hx1
                        try clear c2
                        try clear p2
                        try clear c3
                        try clear c4
                        try clear c8
                        try clear c10
                        try clear c10b0
                        try clear p11
                        try clear q11
                        try clear hx11
                        try clear c12
                        try clear c12b0
                        try clear c12b1
                        try clear c13
                        try clear c13b0
                        try clear c13b1
                        try clear c14
                        try clear c16
                        try clear q16
                        try clear c20
                        try clear c23
                        try clear c24
                        try clear c25
                        try clear c29
                        try clear c29b0
                        try clear c30
                        try clear c30b0
                        try clear c31
                        try clear c31b0
                        try clear c35
                        try clear c36
                        try clear c38
                        try clear c41
                        try clear c42
                        try clear c43
                        try clear hcz15_0
                        try clear hcz15_1
                        try clear hcz15_2
                        try clear hcz15_3
                        try clear hcz21_0
                        try clear hcz21_1
                        try clear hcz21_2
                        try clear hcz21_3
                        try clear hcz26_0
                        try clear hcz26_1
                        try clear hcz26_2
                        try clear hcz26_3
                        try clear hcz27_0
                        try clear hcz27_1
                        try clear hcz27_2
                        try clear hcz27_3
                        try clear hcz37_0
                        try clear hcz37_1
                        try clear hcz39_0
                        try clear hcz39_1
                        try clear hcz39_2
                        try clear hcz39_3
                        try clear hcz44_0
                        try clear hcz44_1
                        try clear hcz9_0
                        try clear hcz9_1
                        try clear hcz9_2
                        try clear hcz9_3
                        try clear hfz15_0
                        try clear hfz15_1
                        try clear hfz15_2
                        try clear hfz15_3
                        try clear hfz21_0
                        try clear hfz21_1
                        try clear hfz21_2
                        try clear hfz21_3
                        try clear hfz26_0
                        try clear hfz26_1
                        try clear hfz26_2
                        try clear hfz26_3
                        try clear hfz27_0
                        try clear hfz27_1
                        try clear hfz27_2
                        try clear hfz27_3
                        try clear hfz37_0
                        try clear hfz37_1
                        try clear hfz39_0
                        try clear hfz39_1
                        try clear hfz39_2
                        try clear hfz39_3
                        try clear hfz44_0
                        try clear hfz44_1
                        try clear hfz9_0
                        try clear hfz9_1
                        try clear hfz9_2
                        try clear hfz9_3
                        try clear hx112_0
                        try clear hx112_1
                        try clear p112
                        try clear p2
                        try clear q016
                        try clear q1
                        try clear q112
                        try clear q16
                        obtain ⟨kq, x76_32, rfl, HA, HJ32, HO_3, HO_52, HO_104003, BK103, BK104, BK113, HB⟩ := hcut
                        cases kq with
                        | zero => exact absurd HA.out (by simp [rlog_Join.j3])
                        | succ kj32 =>
                          have H := HA.out
                          clear HA
                          simp only [rlog_Join.j3] at H
                          by_cases c45 : x76_32 = true
                          · subst c45
                            have H1 : (rlog_Join.l0 kj32 x1_4 x3_4 x3_4 (x3_4.length : Int) (wrap64 (x54_3 + 1)) a0_0 a0_1 a0_2 l0_3) = some (r1, r2, r3, r4, r5, r6) := by rw [if_pos rfl] at H; exact H
                            clear H
                            have H := H1
                            clear H1
                            have H' := Aside0.mk H
                            clear H
                            go_wp2
                            go_roundg kj32
                            case measure => have := HJ4.out; have := HJ18.out; have := HK3.out; have := HJ32.out; omega
                            case rel => exact ⟨(wrap64 (x54_3 + 1)), (x105000_3), (x105001_3), (x105002_3), (by first | rfl | (simp; done) | (simp [*]; done)), H', ⟨by have := HJ4.out; have := HJ18.out; have := HK3.out; have := HJ32.out; omega⟩, ⟨by (with_reducible repeat (first | apply Kd.V_alloc | apply Kd.V_drewN | apply Kd.V_drew)); exact Kd.V_mono HO_3.out (fun _ hk => ⟨hk.1, ⟨hk.2.1, hk.2.2.1⟩⟩)⟩, ⟨by (with_reducible repeat (first | apply Kd.V_alloc | apply Kd.V_drewN | apply Kd.V_drew)); exact Kd.V_mono HO_52.out (fun _ hk => ⟨hk.1, ⟨hk.2.1, hk.2.2.1⟩⟩)⟩, ⟨by (with_reducible repeat (first | apply Kd.V_alloc | apply Kd.V_drewN | apply Kd.V_drew)); exact Kd.V_mono HO_104003.out (fun _ hk => ⟨hk.1, ⟨hk.2.1, hk.2.2.1⟩⟩)⟩, ⟨by (with_reducible repeat (first | refine blk_drewN ?_ _ | refine blk_drew ?_ | refine blk_alloc ?_ _)); exact BK103.out⟩, ⟨by (with_reducible repeat (first | refine blk_drewN ?_ _ | refine blk_drew ?_ | refine blk_alloc ?_ _)); exact BK104.out⟩, ⟨by repeat (first | (with_reducible first | exact HB.out | apply below_alloc | apply pw_below_drewN | apply below_drew1 | refine below_set ?_ GE103.out | refine below_set ?_ GE104.out | refine below_set ?_ GE113.out) | exact HB.out)⟩⟩
                          · replace c45 := Bool.eq_false_iff.mpr c45
                            subst c45
                            have H1 : ((rlog_own.f a0_0 a0_1 a0_2 l0_3 (wrap64 (IntKind.u64.wrap ((IntKind.u64.wrap ((IntKind.u64.wrap ((IntKind.u64.wrap (x1_4 + (IntKind.u64.wrap (x54_3)))) + 1)) - a0_0)) - 1)))).bind fun t116 => (if 0 ≤ x54_3 then (if x54_3 ≤ (x3_4.length : Int) then ((some (x3_4.drop (x54_3 : Int).toNat : List (S36))).bind fun y119 => (if t116.length + y119.length < 5864062014805 then ((some (t116 ++ y119 : List (S36))).bind fun y124 => (if (y124.length : Int) > 1024 then (some (a0_0, a0_1, a0_2, l0_3, 0, false)) else (if (IntKind.u64.wrap (a0_0 + (IntKind.u64.wrap ((y124.length : Int))))) > 1099511627776 then (some (a0_0, a0_1, a0_2, l0_3, 0, false)) else ((rlog_with.f a0_0 a0_1 a0_2 l0_3 y124).bind fun bt127 => (some (bt127.1, bt127.2.1, bt127.2.2.1, bt127.2.2.2, (IntKind.u64.wrap ((IntKind.u64.wrap (x1_4 + (IntKind.u64.wrap (x54_3)))) + 1)), true)))))) else (none))) else (none)) else (none))) = some (r1, r2, r3, r4, r5, r6) := by rw [if_neg (show ¬ (false = true) by decide)] at H; exact H
                            clear H
                            have H := H1
                            clear H1
                            replace H := Option.bind_eq_some_iff.mp H
                            obtain ⟨t116, A460, H⟩ := H
                            replace H : (if 0 ≤ x54_3 then (if x54_3 ≤ (x3_4.length : Int) then ((some (x3_4.drop (x54_3 : Int).toNat : List (S36))).bind fun y119 => (if t116.length + y119.length < 5864062014805 then ((some (t116 ++ y119 : List (S36))).bind fun y124 => (if (y124.length : Int) > 1024 then (some (a0_0, a0_1, a0_2, l0_3, 0, false)) else (if (IntKind.u64.wrap (a0_0 + (IntKind.u64.wrap ((y124.length : Int))))) > 1099511627776 then (some (a0_0, a0_1, a0_2, l0_3, 0, false)) else ((rlog_with.f a0_0 a0_1 a0_2 l0_3 y124).bind fun bt127 => (some (bt127.1, bt127.2.1, bt127.2.2.1, bt127.2.2.2, (IntKind.u64.wrap ((IntKind.u64.wrap (x1_4 + (IntKind.u64.wrap (x54_3)))) + 1)), true)))))) else (none))) else (none)) else (none)) = some (r1, r2, r3, r4, r5, r6) := H
                            have A46 := Aside0.mk A460
                            clear A460
                            by_cases c47 : 0 ≤ x54_3
                            · rw [if_pos c47] at H
                              have c47b0 := eq_true c47
                              have c47b1 : decide (0 ≤ x54_3) = true := decide_eq_true c47
                              clear c47
                              by_cases c48 : x54_3 ≤ (x3_4.length : Int)
                              · rw [if_pos c48] at H
                                have c48b0 := eq_true c48
                                have c48b1 : decide (x54_3 ≤ (x3_4.length : Int)) = true := decide_eq_true c48
                                clear c48
                                obtain ⟨y119, hy119⟩ : ∃ y_ : List (S36), y_ = (x3_4.drop (x54_3 : Int).toNat) := ⟨_, rfl⟩
                                replace H : (if t116.length + y119.length < 5864062014805 then ((some (t116 ++ y119 : List (S36))).bind fun y124 => (if (y124.length : Int) > 1024 then (some (a0_0, a0_1, a0_2, l0_3, 0, false)) else (if (IntKind.u64.wrap (a0_0 + (IntKind.u64.wrap ((y124.length : Int))))) > 1099511627776 then (some (a0_0, a0_1, a0_2, l0_3, 0, false)) else ((rlog_with.f a0_0 a0_1 a0_2 l0_3 y124).bind fun bt127 => (some (bt127.1, bt127.2.1, bt127.2.2.1, bt127.2.2.2, (IntKind.u64.wrap ((IntKind.u64.wrap (x1_4 + (IntKind.u64.wrap (x54_3)))) + 1)), true)))))) else (none)) = some (r1, r2, r3, r4, r5, r6) := by first | (rw [hy119]; with_reducible exact H) | (have H2_ := (Option.bind_some _ _).symm.trans H; rw [hy119]; with_reducible exact H2_) | (have H2_ := (Option.bind_some _ _).symm.trans H; with_reducible exact H2_) | with_reducible exact H | (rw [hy119]; exact H) | exact H
                                have Ny119 := Aside0.mk hy119
                                clear hy119
                                by_cases c49 : t116.length + y119.length < 5864062014805
                                · rw [if_pos c49] at H
                                  have LMc49 := Aside0.mk c49
                                  clear c49
                                  obtain ⟨y124, hy124⟩ : ∃ y_ : List (S36), y_ = (t116 ++ y119) := ⟨_, rfl⟩
                                  replace H : (if (y124.length : Int) > 1024 then (some (a0_0, a0_1, a0_2, l0_3, 0, false)) else (if (IntKind.u64.wrap (a0_0 + (IntKind.u64.wrap ((y124.length : Int))))) > 1099511627776 then (some (a0_0, a0_1, a0_2, l0_3, 0, false)) else ((rlog_with.f a0_0 a0_1 a0_2 l0_3 y124).bind fun bt127 => (some (bt127.1, bt127.2.1, bt127.2.2.1, bt127.2.2.2, (IntKind.u64.wrap ((IntKind.u64.wrap (x1_4 + (IntKind.u64.wrap (x54_3)))) + 1)), true))))) = some (r1, r2, r3, r4, r5, r6) := by first | (rw [hy124]; with_reducible exact H) | (have H2_ := (Option.bind_some _ _).symm.trans H; rw [hy124]; with_reducible exact H2_) | (have H2_ := (Option.bind_some _ _).symm.trans H; with_reducible exact H2_) | with_reducible exact H | (rw [hy124]; exact H) | exact H
                                  have Ny124 := Aside0.mk hy124
                                  clear hy124
                                  by_cases c50 : (y124.length : Int) > 1024
                                  · rw [if_pos c50] at H
                                    have c50b0 : decide (1024 < (y124.length : Int)) = true := decide_eq_true c50
                                    have c50b1 : decide (1024 < y124.length) = true := decide_eq_true (by omega)
                                    clear c50
                                    simp only [Option.some.injEq, Prod.mk.injEq] at H
                                    obtain ⟨rfl, rfl, rfl, rfl, rfl, rfl⟩ := H
                                    have hnb51 := NB103_104.out
                                    have hnc51 := NB104_103.out
                                    have hnb52 := NB103_113.out
                                    have hnc52 := NB113_103.out
                                    have hcz53_0 : wc.cell? ⟨gb103, 0, none⟩ = some (.int .u64 a0_0) := (blk_cell BK103.out 0).trans rfl
                                    have hcz53_1 : wc.cell? ⟨gb103, 1, none⟩ = some (.int .u64 a0_1) := (blk_cell BK103.out 1).trans rfl
                                    have hcz53_2 : wc.cell? ⟨gb103, 2, none⟩ = some (.string a0_2) := (blk_cell BK103.out 2).trans rfl
                                    have hcz53_3 : wc.cell? ⟨gb103, 3, none⟩ = some (.slice A0_3 l0_3.length c0_3) := (blk_cell BK103.out 3).trans rfl
                                    have hfz53_0 := blk_frozen BK103.out 0
                                    have hfz53_1 := blk_frozen BK103.out 1
                                    have hfz53_2 := blk_frozen BK103.out 2
                                    have hfz53_3 := blk_frozen BK103.out 3
                                    try go_wp2
                                    have n0_ := Aside0.mk (Kd.V_drew HO_3.out)
                                    have n1_ := Aside0.mk (Kd.V_drew HO_52.out)
                                    have n2_ := Aside0.mk (Kd.V_drew HO_104003.out)
                                    have n3_ := Aside0.mk (blk_drew BK103.out)
                                    have n4_ := Aside0.mk (blk_drew BK104.out)
                                    have n5_ := Aside0.mk (blk_drew BK113.out)
                                    have n6_ := Aside0.mk (below_drew1 HB.out)
                                    clear HO_3
                                    clear HO_52
                                    clear HO_104003
                                    clear BK103
                                    clear BK104
                                    clear BK113
                                    clear HB
                                    have HO_3 := n0_
                                    have HO_52 := n1_
                                    have HO_104003 := n2_
                                    have BK103 := n3_
                                    have BK104 := n4_
                                    have BK113 := n5_
                                    have HB := n6_
                                    clear n0_ n1_ n2_ n3_ n4_ n5_ n6_
                                    have q55 : (x54_3 : Int) ≤ ((x3_4.length : Int) : Int) := of_decide_eq_true (by first | (with_reducible assumption) | assumption)
                                    obtain ⟨i055, hi055, _, hsz55, _⟩ := info_parts info36
                                    have hroom55 : x3_4.length ≤ co28 := (Kd.V_reads' HO_3.out).2.1
                                    have hC55 : Kd.F k36 _ _ (some ad112) x3_4.length x3_4 := (Kd.V_at (base := w.heap.size) HO_3.out).2.2
                                    have q055 : (0 : Int) ≤ (x54_3 : Int) := of_decide_eq_true (by first | (with_reducible assumption) | assumption)
                                    have hcut55 := cut_from (P := Try.prog) 23 36 .i64 Try.underlying23 hi055 2 hsz55 (some ad112) x3_4.length co28 x54_3 q055 q55
                                    have hr55 := Kd.F_cut (m := (x54_3 : Int).toNat) (c := co28) hC55 (by omega) hroom55
                                    obtain ⟨A55, hA55⟩ : ∃ A1, A1 = (if co28 = (x54_3 : Int).toNat then (some ad112) else ((some ad112) : Option Addr).map (·.add ((x54_3 : Int).toNat * 2))) := ⟨_, rfl⟩
                                    obtain ⟨c55, hc55⟩ : ∃ c1, c1 = co28 - (x54_3 : Int).toNat := ⟨_, rfl⟩
                                    have hy55 : y119.length = x3_4.length - (x54_3 : Int).toNat := (by rw [Ny119.out, List.length_drop] <;> omega)
                                    rw [show (x3_4).drop (x54_3 : Int).toNat = y119 from Ny119.out.symm] at hr55
                                    replace hr55 : Kd.F k36 _ _ A55 y119.length y119 := (by rw [hA55]; exact hr55)
                                    rw [← hy55, ← hA55, ← hc55] at hcut55
                                    have HO123 := Aside0.mk (show Kd.V k36 36 _ w.heap.size _ (.slice A55 y119.length c55) y119 from Kd.V_mk (by rw [hy55, hc55]; exact Nat.sub_le_sub_right hroom55 _) hr55)
                                    have HC123 := Aside0.mk (show y119.length ≤ c55 from by rw [hy55, hc55]; exact Nat.sub_le_sub_right hroom55 _)
                                    clear hr55 hC55 hroom55 hi055 hsz55 hc55
                                    have KY55 := Aside0.mk hy55
                                    have KA55 := Aside0.mk hA55
                                    clear hy55 hA55
                                    replace q55 := eq_true q55
                                    refine start_ (n := 8) (S := fun w' => w'.cell? ⟨gb103, 0, none⟩ = some (.int .u64 a0_0) ∧ w'.cell? ⟨gb103, 1, none⟩ = some (.int .u64 a0_1) ∧ w'.cell? ⟨gb103, 2, none⟩ = some (.string a0_2) ∧ w'.cell? ⟨gb103, 3, none⟩ = some (.slice A0_3 l0_3.length c0_3)) (ds := []) #[false, false, false, false, false, false, false, false] (by kernel_rfl) rfl rfl ⟨(blk_cell BK103.out 0).trans rfl, (blk_cell BK103.out 1).trans rfl, (blk_cell BK103.out 2).trans rfl, (blk_cell BK103.out 3).trans rfl⟩ (fun hHeld => ?_); refine with_tabW rlog_Join.tab14 rlog_Join.bits14 (fun HT_ HW_ => ?_)
                                    generalize wc.drew = w54 at HO_3 HO_52 HO_104003 BK103 BK104 BK113 HB HO123 hHeld ⊢
                                    refine pure_ (i := 1) (N := some 84) (v := ?_) (a' := ?_) #[false, true, false, false, false, false, false, false] rfl rfl (any_of HT_.out (by kernel_rfl)) (fun _ _ _ h => h) (Or.inl ⟨by rfl, ?_⟩) ?_ ?_
                                    rotate_left
                                    · intro w'
                                      go_simp
                                      with_reducible rfl
                                    rotate_left
                                    · simp only [Act.put, List.setIfInBounds_toArray, List.set_cons_zero, List.set_cons_succ, i64_w, i32_w]
                                      rfl
                                    refine pure_ (i := 3) (N := some 86) (v := ?_) (a' := ?_) #[false, true, false, true, false, false, false, false] rfl rfl (any_of HT_.out (by kernel_rfl)) (fun _ _ _ h => h) (Or.inl ⟨by rfl, ?_⟩) ?_ ?_
                                    rotate_left
                                    · intro w'
                                      go_simp
                                      with_reducible rfl
                                    rotate_left
                                    · simp only [Act.put, List.setIfInBounds_toArray, List.set_cons_zero, List.set_cons_succ, i64_w, i32_w]
                                      rfl
                                    refine pure_ (i := 4) (N := some 87) (v := ?_) (a' := ?_) #[false, true, false, true, true, false, false, false] rfl rfl (any_of HT_.out (by kernel_rfl)) (fun _ _ _ h => h) (Or.inl ⟨by rfl, ?_⟩) ?_ ?_
                                    rotate_left
                                    · intro w'
                                      go_simp
                                      with_reducible rfl
                                    rotate_left
                                    · simp only [Act.put, List.setIfInBounds_toArray, List.set_cons_zero, List.set_cons_succ, i64_w, i32_w]
                                      rfl
                                    refine pure_ (i := 5) (N := some 88) (v := ?_) (a' := ?_) #[false, true, false, true, true, true, false, false] rfl rfl (any_of HT_.out (by kernel_rfl)) (fun _ _ _ h => h) (Or.inl ⟨by rfl, ?_⟩) ?_ ?_
                                    rotate_left
                                    · intro w'
                                      go_simp
                                      with_reducible rfl
                                    rotate_left
                                    · simp only [Act.put, List.setIfInBounds_toArray, List.set_cons_zero, List.set_cons_succ, i64_w, i32_w]
                                      rfl
                                    refine take_ (i := 0) (N := some 83) (v := ?_) (a' := ?_) #[true, true, false, true, true, true, false, false] rfl rfl (take_ofW HT_.out HW_.out (by kernel_rfl)) (fun _ _ _ h => h) (Or.inl ⟨by rfl, ?_⟩) hHeld ?_ ?_
                                    rotate_left
                                    · rintro w' ⟨s0, s1, s2, s3⟩
                                      go_simp
                                      with_reducible rfl
                                    rotate_left
                                    · simp only [Act.put, List.setIfInBounds_toArray, List.set_cons_zero, List.set_cons_succ, i64_w, i32_w]
                                      rfl
                                    refine one_ (i := 2) (N := some 85) #[true, true, true, true, true, true, false, false] rfl rfl (one_of HT_.out (by kernel_rfl)) (by decide) (fun K hK => ?_)
                                    refine goes_ Try.func31 (by kernel_rfl) rfl #[.agg #[.int .u64 a0_0, .int .u64 a0_1, .string a0_2, .slice A0_3 l0_3.length c0_3], .int .i64 (wrap64 (IntKind.u64.wrap ((IntKind.u64.wrap ((IntKind.u64.wrap ((IntKind.u64.wrap (x1_4 + (IntKind.u64.wrap (x54_3)))) + 1)) - a0_0)) - 1)))] (by rfl) rfl rfl (by (try simp only [List.map_toArray, List.map_cons, List.map_nil]); first | done | rfl | (simp only [List.length_drop, List.length_take]; rfl)) ?_
                                    with_reducible refine (rlog_own.calls a0_0 a0_1 a0_2 _ _ l0_3 (wrap64 (IntKind.u64.wrap ((IntKind.u64.wrap ((IntKind.u64.wrap ((IntKind.u64.wrap (x1_4 + (IntKind.u64.wrap (x54_3)))) + 1)) - a0_0)) - 1))) t116 _ ?side1 ?side2 A46.out).mono ?_
                                    (case side1 => repeat (first | exact (Kd.V_reads' HO_104003.out).2.2 | (with_reducible refine Kd.C_alloc ?_ _) | (with_reducible refine Kd.C_drewN ?_ _) | (with_reducible refine Kd.C_drew ?_)))
                                    (case side2 => exact (Kd.V_reads' HO_104003.out).2.1)
                                    rintro e w56 ⟨v117, rfl, ho0, hb⟩
                                    refine ⟨_, rfl, ?_⟩
                                    have n0_ := Aside0.mk (Kd.V_elder' (by (with_reducible repeat (first | apply Kd.V_alloc | apply Kd.V_drewN | apply Kd.V_drew)); exact HO_3.out) (Kd.R_base ho0) hb)
                                    have n1_ := Aside0.mk (Kd.V_elder' (by (with_reducible repeat (first | apply Kd.V_alloc | apply Kd.V_drewN | apply Kd.V_drew)); exact HO_52.out) (Kd.R_base ho0) hb)
                                    have n2_ := Aside0.mk (Kd.V_elder' (by (with_reducible repeat (first | apply Kd.V_alloc | apply Kd.V_drewN | apply Kd.V_drew)); exact HO_104003.out) (Kd.R_base ho0) hb)
                                    have n3_ := Aside0.mk (Kd.V_elder' (by (with_reducible repeat (first | apply Kd.V_alloc | apply Kd.V_drewN | apply Kd.V_drew)); exact HO123.out) (Kd.R_base ho0) hb)
                                    have n4_ := Aside0.mk (Kd.R_lower (Kd.R_newB (Kd.R_newM (M := fun k_ => (w.heap.size ≤ k_)) ho0 (below_size (by repeat (first | (with_reducible first | exact HB.out | apply below_alloc | apply pw_below_drewN | apply below_drew1 | refine below_set ?_ GE103.out | refine below_set ?_ GE104.out | refine below_set ?_ GE113.out) | exact HB.out))) (fun k_ h_ => h_)) (g := gb113) (o := .cells #[.int .u64 ((rd_T36 x3_4 x54_3).f0), .string ((rd_T36 x3_4 x54_3).f1)] 36 (0, 0)) (by (with_reducible repeat (first | refine blk_drewN ?_ _ | refine blk_drew ?_ | refine blk_alloc ?_ _)); exact BK113.out)) (below_size (by repeat (first | (with_reducible first | exact HB.out | apply below_alloc | apply pw_below_drewN | apply below_drew1 | refine below_set ?_ GE103.out | refine below_set ?_ GE104.out | refine below_set ?_ GE113.out) | exact HB.out))))
                                    have n5_ := Aside0.mk (blk_below (g := gb103) (o := .cells #[.int .u64 a0_0, .int .u64 a0_1, .string a0_2, .slice A0_3 l0_3.length c0_3] 25 (0, 0)) (by (with_reducible repeat (first | refine blk_drewN ?_ _ | refine blk_drew ?_ | refine blk_alloc ?_ _)); exact BK103.out) hb)
                                    have n6_ := Aside0.mk (blk_below (g := gb104) (o := .cells #[.int .u64 x105000_3, .int .u64 x105001_3, .string x105002_3, .slice none 0 0] 25 (0, 0)) (by (with_reducible repeat (first | refine blk_drewN ?_ _ | refine blk_drew ?_ | refine blk_alloc ?_ _)); exact BK104.out) hb)
                                    have n7_ := Aside0.mk (blk_below (g := gb113) (o := .cells #[.int .u64 ((rd_T36 x3_4 x54_3).f0), .string ((rd_T36 x3_4 x54_3).f1)] 36 (0, 0)) (by (with_reducible repeat (first | refine blk_drewN ?_ _ | refine blk_drew ?_ | refine blk_alloc ?_ _)); exact BK113.out) hb)
                                    have n8_ := Aside0.mk (below_step (by repeat (first | (with_reducible first | exact HB.out | apply below_alloc | apply pw_below_drewN | apply below_drew1 | refine below_set ?_ GE103.out | refine below_set ?_ GE104.out | refine below_set ?_ GE113.out) | exact HB.out)) hb)
                                    clear HO_3
                                    clear HO_52
                                    clear HO_104003
                                    clear HO123
                                    clear BK103
                                    clear BK104
                                    clear BK113
                                    clear HB
                                    have HO_3 := n0_
                                    have HO_52 := n1_
                                    have HO_104003 := n2_
                                    have HO123 := n3_
                                    have HO118 := n4_
                                    have BK103 := n5_
                                    have BK104 := n6_
                                    have BK113 := n7_
                                    have HB := n8_
                                    clear n0_ n1_ n2_ n3_ n4_ n5_ n6_ n7_ n8_
                                    (try clear hb)
                                    (try clear hb2)
                                    (try clear hk)
                                    (try clear hi)
                                    (try clear ho0)
                                    refine hK.out _ _ ⟨(blk_cell BK103.out 0).trans rfl, (blk_cell BK103.out 1).trans rfl, (blk_cell BK103.out 2).trans rfl, (blk_cell BK103.out 3).trans rfl⟩ (fun hHeld => ?_)
                                    clear hK K
                                    refine norm_ (a' := ?_) ?_ ?_
                                    rotate_left
                                    · show Act.put _ (some 85) _ = _
                                      simp only [Act.put, List.setIfInBounds_toArray, List.set_cons_zero, List.set_cons_succ, i64_w, i32_w]
                                      rfl
                                    refine one_ (i := 6) (N := some 89) #[true, true, true, true, true, true, true, false] rfl rfl (one_of HT_.out (by kernel_rfl)) (by decide) (fun K hK => ?_)
                                    refine Kd.R_append_rows_step k36 (w0 := w) w.heap.size (by rfl) (.tmp 85) (.tmp 88) 23 36 (.agg #[(.int .u64 0), (.string ⟨#[]⟩)]) 24 rfl Try.underlying23 info36 rfl (by decide) (by omega) v117 t116 y119 _ _ _ (fun k_ => (w.heap.size ≤ k_) ∧ k_ ≠ gb113) (fun _ => False) rfl rfl ?aO ?aR (fun _ _ h => h) (fun _ h => h.elim) ?aF ?aB ?aS ?aL ?_
                                    (case aR => repeat (first | exact (Kd.V_reads' HO123.out).2.2 | (with_reducible refine Kd.C_alloc ?_ _) | (with_reducible refine Kd.C_drewN ?_ _) | (with_reducible refine Kd.C_drew ?_)))
                                    (case aB => exact (by repeat (first | (with_reducible first | exact HB.out | apply below_alloc | apply pw_below_drewN | apply below_drew1 | refine below_set ?_ GE103.out | refine below_set ?_ GE104.out | refine below_set ?_ GE113.out) | exact HB.out)))
                                    (case aF => exact (fun k_ hk => ⟨(Nat.le_trans (below_size (by repeat (first | (with_reducible first | exact HB.out | apply below_alloc | apply pw_below_drewN | apply below_drew1 | refine below_set ?_ GE103.out | refine below_set ?_ GE104.out | refine below_set ?_ GE113.out) | exact HB.out))) hk), Kd.freshB (g := gb113) (o := .cells #[.int .u64 ((rd_T36 x3_4 x54_3).f0), .string ((rd_T36 x3_4 x54_3).f1)] 36 (0, 0)) (by (with_reducible repeat (first | refine blk_drewN ?_ _ | refine blk_drew ?_ | refine blk_alloc ?_ _)); exact BK113.out) k_ hk⟩))
                                    (case aO => exact (by (with_reducible repeat (first | apply Kd.R_alloc | apply Kd.R_drewN | apply Kd.R_drew)); exact Kd.R_mono HO118.out (fun _ hk => ⟨hk.1.1, hk.2⟩)))
                                    (case aS => exact (below_size (by repeat (first | (with_reducible first | exact HB.out | apply below_alloc | apply pw_below_drewN | apply below_drew1 | refine below_set ?_ GE103.out | refine below_set ?_ GE104.out | refine below_set ?_ GE113.out) | exact HB.out))))
                                    (case aL => have := LMc49.out; omega)
                                    intro v125 w57 ho hb hg hat
                                    rw [← Ny124.out] at ho
                                    have n0_ := Aside0.mk (Kd.V_afterv (ok := (fun k_ => ((P0_3_ k_ ∨ P3_ k_) ∨ w.heap.size ≤ k_) ∧ k_ ≠ gb103 ∧ k_ ≠ gb104 ∧ k_ ≠ gb113)) (by (with_reducible repeat (first | apply Kd.V_alloc | apply Kd.V_drewN | apply Kd.V_drew)); exact HO_3.out) hg hat)
                                    have n1_ := Aside0.mk (Kd.V_afterv (ok := (fun k_ => ((P0_3_ k_ ∨ P3_ k_) ∨ w.heap.size ≤ k_) ∧ k_ ≠ gb103 ∧ k_ ≠ gb104 ∧ k_ ≠ gb113)) (by (with_reducible repeat (first | apply Kd.V_alloc | apply Kd.V_drewN | apply Kd.V_drew)); exact HO_52.out) hg hat)
                                    have n2_ := Aside0.mk (Kd.V_afterv (ok := (fun k_ => ((P0_3_ k_ ∨ P3_ k_) ∨ w.heap.size ≤ k_) ∧ k_ ≠ gb103 ∧ k_ ≠ gb104 ∧ k_ ≠ gb113)) (by (with_reducible repeat (first | apply Kd.V_alloc | apply Kd.V_drewN | apply Kd.V_drew)); exact HO_104003.out) hg hat)
                                    have n3_ := Aside0.mk (blk_grown (g := gb103) (o := .cells #[.int .u64 a0_0, .int .u64 a0_1, .string a0_2, .slice A0_3 l0_3.length c0_3] 25 (0, 0)) (by (with_reducible repeat (first | refine blk_drewN ?_ _ | refine blk_drew ?_ | refine blk_alloc ?_ _)); exact BK103.out) hg (Kd.R_ne HO118.out BK103.out (by decide)))
                                    have n4_ := Aside0.mk (blk_grown (g := gb104) (o := .cells #[.int .u64 x105000_3, .int .u64 x105001_3, .string x105002_3, .slice none 0 0] 25 (0, 0)) (by (with_reducible repeat (first | refine blk_drewN ?_ _ | refine blk_drew ?_ | refine blk_alloc ?_ _)); exact BK104.out) hg (Kd.R_ne HO118.out BK104.out (by decide)))
                                    have n5_ := Aside0.mk (blk_grown (g := gb113) (o := .cells #[.int .u64 ((rd_T36 x3_4 x54_3).f0), .string ((rd_T36 x3_4 x54_3).f1)] 36 (0, 0)) (by (with_reducible repeat (first | refine blk_drewN ?_ _ | refine blk_drew ?_ | refine blk_alloc ?_ _)); exact BK113.out) hg (Kd.R_away HO118.out (fun _ hk => hk.2)))
                                    have n6_ := Aside0.mk (Kd.V_afterv (ok := (fun k_ => ((P0_3_ k_ ∨ P3_ k_) ∨ w.heap.size ≤ k_) ∧ k_ ≠ gb103 ∧ k_ ≠ gb104 ∧ k_ ≠ gb113)) (by (with_reducible repeat (first | apply Kd.V_alloc | apply Kd.V_drewN | apply Kd.V_drew)); exact HO123.out) hg hat)
                                    have n7_ := Aside0.mk (hb)
                                    have n8_ := Aside0.mk (ho)
                                    clear HO_3
                                    clear HO_52
                                    clear HO_104003
                                    clear BK103
                                    clear BK104
                                    clear BK113
                                    clear HO123
                                    clear HB
                                    clear HO118
                                    have HO_3 := n0_
                                    have HO_52 := n1_
                                    have HO_104003 := n2_
                                    have BK103 := n3_
                                    have BK104 := n4_
                                    have BK113 := n5_
                                    have HO123 := n6_
                                    have HB := n7_
                                    have HO126 := n8_
                                    clear n0_ n1_ n2_ n3_ n4_ n5_ n6_ n7_ n8_
                                    clear ho hb hg hat
                                    refine hK.out _ _ ⟨(blk_cell BK103.out 0).trans rfl, (blk_cell BK103.out 1).trans rfl, (blk_cell BK103.out 2).trans rfl, (blk_cell BK103.out 3).trans rfl⟩ (fun hHeld => ?_)
                                    clear hK K
                                    refine norm_ (a' := ?_) ?_ ?_
                                    rotate_left
                                    · show Act.put _ (some 89) _ = _
                                      simp only [Act.put, List.setIfInBounds_toArray, List.set_cons_zero, List.set_cons_succ, i64_w, i32_w]
                                      rfl
                                    refine pure_ (i := 7) (N := some 19) (v := ?_) (a' := ?_) #[true, true, true, true, true, true, true, true] rfl rfl (any_of HT_.out (by kernel_rfl)) (fun _ _ _ h => h) (Or.inl ⟨by rfl, ?_⟩) ?_ ?_
                                    rotate_left
                                    · intro w'
                                      go_simp
                                      with_reducible rfl
                                    rotate_left
                                    · simp only [Act.put, List.setIfInBounds_toArray, List.set_cons_zero, List.set_cons_succ, i64_w, i32_w]
                                      rfl
                                    refine done_ (done_of HT_.out (by kernel_rfl)) ?_
                                    obtain ⟨Ao58, co58, eo58⟩ := Kd.R_slice HO126.out
                                    subst eo58
                                    have hcz59_0 : w57.cell? ⟨gb103, 0, none⟩ = some (.int .u64 a0_0) := (blk_cell BK103.out 0).trans rfl
                                    have hcz59_1 : w57.cell? ⟨gb103, 1, none⟩ = some (.int .u64 a0_1) := (blk_cell BK103.out 1).trans rfl
                                    have hcz59_2 : w57.cell? ⟨gb103, 2, none⟩ = some (.string a0_2) := (blk_cell BK103.out 2).trans rfl
                                    have hcz59_3 : w57.cell? ⟨gb103, 3, none⟩ = some (.slice A0_3 l0_3.length c0_3) := (blk_cell BK103.out 3).trans rfl
                                    have hfz59_0 := blk_frozen BK103.out 0
                                    have hfz59_1 := blk_frozen BK103.out 1
                                    have hfz59_2 := blk_frozen BK103.out 2
                                    have hfz59_3 := blk_frozen BK103.out 3
                                    have hnb60 := NB104_113.out
                                    have hnc60 := NB113_104.out
                                    have hcz61_0 : w57.cell? ⟨gb104, 0, none⟩ = some (.int .u64 x105000_3) := (blk_cell BK104.out 0).trans rfl
                                    have hcz61_1 : w57.cell? ⟨gb104, 1, none⟩ = some (.int .u64 x105001_3) := (blk_cell BK104.out 1).trans rfl
                                    have hcz61_2 : w57.cell? ⟨gb104, 2, none⟩ = some (.string x105002_3) := (blk_cell BK104.out 2).trans rfl
                                    have hcz61_3 : w57.cell? ⟨gb104, 3, none⟩ = some (.slice none 0 0) := (blk_cell BK104.out 3).trans rfl
                                    have hfz61_0 := blk_frozen BK104.out 0
                                    have hfz61_1 := blk_frozen BK104.out 1
                                    have hfz61_2 := blk_frozen BK104.out 2
                                    have hfz61_3 := blk_frozen BK104.out 3
                                    try go_wp2
                                    refine bodyPost_ret (results_ctt rfl _ _ gb104 25 #[.int .u64 a0_0, .int .u64 a0_1, .string a0_2, .slice A0_3 l0_3.length c0_3] (0, 0) _ rfl (by (with_reducible repeat (first | refine blk_drewN ?_ _ | refine blk_drew ?_ | refine blk_alloc ?_ _)); refine blk_put (cs := #[.int .u64 a0_0, .int .u64 a0_1, .string a0_2, .slice none 0 0]) ?_ 3 _ rfl; (with_reducible repeat (first | refine blk_drewN ?_ _ | refine blk_drew ?_ | refine blk_alloc ?_ _)); refine blk_put (cs := #[.int .u64 a0_0, .int .u64 a0_1, .string x105002_3, .slice none 0 0]) ?_ 2 _ rfl; (with_reducible repeat (first | refine blk_drewN ?_ _ | refine blk_drew ?_ | refine blk_alloc ?_ _)); refine blk_put (cs := #[.int .u64 a0_0, .int .u64 x105001_3, .string x105002_3, .slice none 0 0]) ?_ 1 _ rfl; (with_reducible repeat (first | refine blk_drewN ?_ _ | refine blk_drew ?_ | refine blk_alloc ?_ _)); refine blk_put (cs := #[.int .u64 x105000_3, .int .u64 x105001_3, .string x105002_3, .slice none 0 0]) ?_ 0 _ rfl; (with_reducible repeat (first | refine blk_drewN ?_ _ | refine blk_drew ?_ | refine blk_alloc ?_ _)); exact BK104.out) Try.underlying25 rfl (by kernel_rfl)) rfl ?_
                                    exact ⟨_, by first | rfl | (simp [errW_none, errW_some] <;> rfl) | (simp [*, errW_none, errW_some] <;> rfl), by (with_reducible repeat (first | apply Kd.V_alloc | apply Kd.V_drewN | apply Kd.V_drew)); exact Kd.V_mono (Kd.V_far (p := ⟨gb104, 3, none⟩) (Kd.V_far (p := ⟨gb104, 2, none⟩) (Kd.V_far (p := ⟨gb104, 1, none⟩) (Kd.V_far (p := ⟨gb104, 0, none⟩) (Kd.V_mono HO_104003.out (fun k_ hk => (⟨hk, hk.1.2.2.1⟩ : _ ∧ k_ ≠ gb104))) (fun _ hk => hk.2) (.int .u64 a0_0)) (fun _ hk => hk.2) (.int .u64 a0_1)) (fun _ hk => hk.2) (.string a0_2)) (fun _ hk => hk.2) (.slice A0_3 l0_3.length c0_3)) (fun _ hk => hk.1.1.1), by repeat (first | (with_reducible first | exact HB.out | apply below_alloc | apply pw_below_drewN | apply below_drew1 | refine below_set ?_ GE103.out | refine below_set ?_ GE104.out | refine below_set ?_ GE113.out) | exact HB.out)⟩
                                  · rw [if_neg c50] at H
                                    have c50b0 : decide (1024 < (y124.length : Int)) = false := decide_eq_false c50
                                    have c50b1 : decide (1024 < y124.length) = false := decide_eq_false (by omega)
                                    clear c50
                                    by_cases c62 : (IntKind.u64.wrap (a0_0 + (IntKind.u64.wrap ((y124.length : Int))))) > 1099511627776
                                    · rw [if_pos c62] at H
                                      have c62b0 : decide (1099511627776 < (IntKind.u64.wrap (a0_0 + (IntKind.u64.wrap ((y124.length : Int)))))) = true := decide_eq_true c62
                                      clear c62
                                      simp only [Option.some.injEq, Prod.mk.injEq] at H
                                      obtain ⟨rfl, rfl, rfl, rfl, rfl, rfl⟩ := H
                                      have hnb63 := NB103_104.out
                                      have hnc63 := NB104_103.out
                                      have hnb64 := NB103_113.out
                                      have hnc64 := NB113_103.out
                                      have hcz65_0 : wc.cell? ⟨gb103, 0, none⟩ = some (.int .u64 a0_0) := (blk_cell BK103.out 0).trans rfl
                                      have hcz65_1 : wc.cell? ⟨gb103, 1, none⟩ = some (.int .u64 a0_1) := (blk_cell BK103.out 1).trans rfl
                                      have hcz65_2 : wc.cell? ⟨gb103, 2, none⟩ = some (.string a0_2) := (blk_cell BK103.out 2).trans rfl
                                      have hcz65_3 : wc.cell? ⟨gb103, 3, none⟩ = some (.slice A0_3 l0_3.length c0_3) := (blk_cell BK103.out 3).trans rfl
                                      have hfz65_0 := blk_frozen BK103.out 0
                                      have hfz65_1 := blk_frozen BK103.out 1
                                      have hfz65_2 := blk_frozen BK103.out 2
                                      have hfz65_3 := blk_frozen BK103.out 3
                                      try go_wp2
                                      have n0_ := Aside0.mk (Kd.V_drew HO_3.out)
                                      have n1_ := Aside0.mk (Kd.V_drew HO_52.out)
                                      have n2_ := Aside0.mk (Kd.V_drew HO_104003.out)
                                      have n3_ := Aside0.mk (blk_drew BK103.out)
                                      have n4_ := Aside0.mk (blk_drew BK104.out)
                                      have n5_ := Aside0.mk (blk_drew BK113.out)
                                      have n6_ := Aside0.mk (below_drew1 HB.out)
                                      clear HO_3
                                      clear HO_52
                                      clear HO_104003
                                      clear BK103
                                      clear BK104
                                      clear BK113
                                      clear HB
                                      have HO_3 := n0_
                                      have HO_52 := n1_
                                      have HO_104003 := n2_
                                      have BK103 := n3_
                                      have BK104 := n4_
                                      have BK113 := n5_
                                      have HB := n6_
                                      clear n0_ n1_ n2_ n3_ n4_ n5_ n6_
                                      have q67 : (x54_3 : Int) ≤ ((x3_4.length : Int) : Int) := of_decide_eq_true (by first | (with_reducible assumption) | assumption)
                                      obtain ⟨i067, hi067, _, hsz67, _⟩ := info_parts info36
                                      have hroom67 : x3_4.length ≤ co28 := (Kd.V_reads' HO_3.out).2.1
                                      have hC67 : Kd.F k36 _ _ (some ad112) x3_4.length x3_4 := (Kd.V_at (base := w.heap.size) HO_3.out).2.2
                                      have q067 : (0 : Int) ≤ (x54_3 : Int) := of_decide_eq_true (by first | (with_reducible assumption) | assumption)
                                      have hcut67 := cut_from (P := Try.prog) 23 36 .i64 Try.underlying23 hi067 2 hsz67 (some ad112) x3_4.length co28 x54_3 q067 q67
                                      have hr67 := Kd.F_cut (m := (x54_3 : Int).toNat) (c := co28) hC67 (by omega) hroom67
                                      obtain ⟨A67, hA67⟩ : ∃ A1, A1 = (if co28 = (x54_3 : Int).toNat then (some ad112) else ((some ad112) : Option Addr).map (·.add ((x54_3 : Int).toNat * 2))) := ⟨_, rfl⟩
                                      obtain ⟨c67, hc67⟩ : ∃ c1, c1 = co28 - (x54_3 : Int).toNat := ⟨_, rfl⟩
                                      have hy67 : y119.length = x3_4.length - (x54_3 : Int).toNat := (by rw [Ny119.out, List.length_drop] <;> omega)
                                      rw [show (x3_4).drop (x54_3 : Int).toNat = y119 from Ny119.out.symm] at hr67
                                      replace hr67 : Kd.F k36 _ _ A67 y119.length y119 := (by rw [hA67]; exact hr67)
                                      rw [← hy67, ← hA67, ← hc67] at hcut67
                                      have HO123 := Aside0.mk (show Kd.V k36 36 _ w.heap.size _ (.slice A67 y119.length c67) y119 from Kd.V_mk (by rw [hy67, hc67]; exact Nat.sub_le_sub_right hroom67 _) hr67)
                                      have HC123 := Aside0.mk (show y119.length ≤ c67 from by rw [hy67, hc67]; exact Nat.sub_le_sub_right hroom67 _)
                                      clear hr67 hC67 hroom67 hi067 hsz67 hc67
                                      have KY67 := Aside0.mk hy67
                                      have KA67 := Aside0.mk hA67
                                      clear hy67 hA67
                                      replace q67 := eq_true q67
                                      refine start_ (n := 8) (S := fun w' => w'.cell? ⟨gb103, 0, none⟩ = some (.int .u64 a0_0) ∧ w'.cell? ⟨gb103, 1, none⟩ = some (.int .u64 a0_1) ∧ w'.cell? ⟨gb103, 2, none⟩ = some (.string a0_2) ∧ w'.cell? ⟨gb103, 3, none⟩ = some (.slice A0_3 l0_3.length c0_3)) (ds := []) #[false, false, false, false, false, false, false, false] (by kernel_rfl) rfl rfl ⟨(blk_cell BK103.out 0).trans rfl, (blk_cell BK103.out 1).trans rfl, (blk_cell BK103.out 2).trans rfl, (blk_cell BK103.out 3).trans rfl⟩ (fun hHeld => ?_); refine with_tabW rlog_Join.tab14 rlog_Join.bits14 (fun HT_ HW_ => ?_)
                                      generalize wc.drew = w66 at HO_3 HO_52 HO_104003 BK103 BK104 BK113 HB HO123 hHeld ⊢
                                      refine pure_ (i := 1) (N := some 84) (v := ?_) (a' := ?_) #[false, true, false, false, false, false, false, false] rfl rfl (any_of HT_.out (by kernel_rfl)) (fun _ _ _ h => h) (Or.inl ⟨by rfl, ?_⟩) ?_ ?_
                                      rotate_left
                                      · intro w'
                                        go_simp
                                        with_reducible rfl
                                      rotate_left
                                      · simp only [Act.put, List.setIfInBounds_toArray, List.set_cons_zero, List.set_cons_succ, i64_w, i32_w]
                                        rfl
                                      refine pure_ (i := 3) (N := some 86) (v := ?_) (a' := ?_) #[false, true, false, true, false, false, false, false] rfl rfl (any_of HT_.out (by kernel_rfl)) (fun _ _ _ h => h) (Or.inl ⟨by rfl, ?_⟩) ?_ ?_
                                      rotate_left
                                      · intro w'
                                        go_simp
                                        with_reducible rfl
                                      rotate_left
                                      · simp only [Act.put, List.setIfInBounds_toArray, List.set_cons_zero, List.set_cons_succ, i64_w, i32_w]
                                        rfl
                                      refine pure_ (i := 4) (N := some 87) (v := ?_) (a' := ?_) #[false, true, false, true, true, false, false, false] rfl rfl (any_of HT_.out (by kernel_rfl)) (fun _ _ _ h => h) (Or.inl ⟨by rfl, ?_⟩) ?_ ?_
                                      rotate_left
                                      · intro w'
                                        go_simp
                                        with_reducible rfl
                                      rotate_left
                                      · simp only [Act.put, List.setIfInBounds_toArray, List.set_cons_zero, List.set_cons_succ, i64_w, i32_w]
                                        rfl
                                      refine pure_ (i := 5) (N := some 88) (v := ?_) (a' := ?_) #[false, true, false, true, true, true, false, false] rfl rfl (any_of HT_.out (by kernel_rfl)) (fun _ _ _ h => h) (Or.inl ⟨by rfl, ?_⟩) ?_ ?_
                                      rotate_left
                                      · intro w'
                                        go_simp
                                        with_reducible rfl
                                      rotate_left
                                      · simp only [Act.put, List.setIfInBounds_toArray, List.set_cons_zero, List.set_cons_succ, i64_w, i32_w]
                                        rfl
                                      refine take_ (i := 0) (N := some 83) (v := ?_) (a' := ?_) #[true, true, false, true, true, true, false, false] rfl rfl (take_ofW HT_.out HW_.out (by kernel_rfl)) (fun _ _ _ h => h) (Or.inl ⟨by rfl, ?_⟩) hHeld ?_ ?_
                                      rotate_left
                                      · rintro w' ⟨s0, s1, s2, s3⟩
                                        go_simp
                                        with_reducible rfl
                                      rotate_left
                                      · simp only [Act.put, List.setIfInBounds_toArray, List.set_cons_zero, List.set_cons_succ, i64_w, i32_w]
                                        rfl
                                      refine one_ (i := 2) (N := some 85) #[true, true, true, true, true, true, false, false] rfl rfl (one_of HT_.out (by kernel_rfl)) (by decide) (fun K hK => ?_)
                                      refine goes_ Try.func31 (by kernel_rfl) rfl #[.agg #[.int .u64 a0_0, .int .u64 a0_1, .string a0_2, .slice A0_3 l0_3.length c0_3], .int .i64 (wrap64 (IntKind.u64.wrap ((IntKind.u64.wrap ((IntKind.u64.wrap ((IntKind.u64.wrap (x1_4 + (IntKind.u64.wrap (x54_3)))) + 1)) - a0_0)) - 1)))] (by rfl) rfl rfl (by (try simp only [List.map_toArray, List.map_cons, List.map_nil]); first | done | rfl | (simp only [List.length_drop, List.length_take]; rfl)) ?_
                                      with_reducible refine (rlog_own.calls a0_0 a0_1 a0_2 _ _ l0_3 (wrap64 (IntKind.u64.wrap ((IntKind.u64.wrap ((IntKind.u64.wrap ((IntKind.u64.wrap (x1_4 + (IntKind.u64.wrap (x54_3)))) + 1)) - a0_0)) - 1))) t116 _ ?side1 ?side2 A46.out).mono ?_
                                      (case side1 => repeat (first | exact (Kd.V_reads' HO_104003.out).2.2 | (with_reducible refine Kd.C_alloc ?_ _) | (with_reducible refine Kd.C_drewN ?_ _) | (with_reducible refine Kd.C_drew ?_)))
                                      (case side2 => exact (Kd.V_reads' HO_104003.out).2.1)
                                      rintro e w68 ⟨v117, rfl, ho0, hb⟩
                                      refine ⟨_, rfl, ?_⟩
                                      have n0_ := Aside0.mk (Kd.V_elder' (by (with_reducible repeat (first | apply Kd.V_alloc | apply Kd.V_drewN | apply Kd.V_drew)); exact HO_3.out) (Kd.R_base ho0) hb)
                                      have n1_ := Aside0.mk (Kd.V_elder' (by (with_reducible repeat (first | apply Kd.V_alloc | apply Kd.V_drewN | apply Kd.V_drew)); exact HO_52.out) (Kd.R_base ho0) hb)
                                      have n2_ := Aside0.mk (Kd.V_elder' (by (with_reducible repeat (first | apply Kd.V_alloc | apply Kd.V_drewN | apply Kd.V_drew)); exact HO_104003.out) (Kd.R_base ho0) hb)
                                      have n3_ := Aside0.mk (Kd.V_elder' (by (with_reducible repeat (first | apply Kd.V_alloc | apply Kd.V_drewN | apply Kd.V_drew)); exact HO123.out) (Kd.R_base ho0) hb)
                                      have n4_ := Aside0.mk (Kd.R_lower (Kd.R_newB (Kd.R_newM (M := fun k_ => (w.heap.size ≤ k_)) ho0 (below_size (by repeat (first | (with_reducible first | exact HB.out | apply below_alloc | apply pw_below_drewN | apply below_drew1 | refine below_set ?_ GE103.out | refine below_set ?_ GE104.out | refine below_set ?_ GE113.out) | exact HB.out))) (fun k_ h_ => h_)) (g := gb113) (o := .cells #[.int .u64 ((rd_T36 x3_4 x54_3).f0), .string ((rd_T36 x3_4 x54_3).f1)] 36 (0, 0)) (by (with_reducible repeat (first | refine blk_drewN ?_ _ | refine blk_drew ?_ | refine blk_alloc ?_ _)); exact BK113.out)) (below_size (by repeat (first | (with_reducible first | exact HB.out | apply below_alloc | apply pw_below_drewN | apply below_drew1 | refine below_set ?_ GE103.out | refine below_set ?_ GE104.out | refine below_set ?_ GE113.out) | exact HB.out))))
                                      have n5_ := Aside0.mk (blk_below (g := gb103) (o := .cells #[.int .u64 a0_0, .int .u64 a0_1, .string a0_2, .slice A0_3 l0_3.length c0_3] 25 (0, 0)) (by (with_reducible repeat (first | refine blk_drewN ?_ _ | refine blk_drew ?_ | refine blk_alloc ?_ _)); exact BK103.out) hb)
                                      have n6_ := Aside0.mk (blk_below (g := gb104) (o := .cells #[.int .u64 x105000_3, .int .u64 x105001_3, .string x105002_3, .slice none 0 0] 25 (0, 0)) (by (with_reducible repeat (first | refine blk_drewN ?_ _ | refine blk_drew ?_ | refine blk_alloc ?_ _)); exact BK104.out) hb)
                                      have n7_ := Aside0.mk (blk_below (g := gb113) (o := .cells #[.int .u64 ((rd_T36 x3_4 x54_3).f0), .string ((rd_T36 x3_4 x54_3).f1)] 36 (0, 0)) (by (with_reducible repeat (first | refine blk_drewN ?_ _ | refine blk_drew ?_ | refine blk_alloc ?_ _)); exact BK113.out) hb)
                                      have n8_ := Aside0.mk (below_step (by repeat (first | (with_reducible first | exact HB.out | apply below_alloc | apply pw_below_drewN | apply below_drew1 | refine below_set ?_ GE103.out | refine below_set ?_ GE104.out | refine below_set ?_ GE113.out) | exact HB.out)) hb)
                                      clear HO_3
                                      clear HO_52
                                      clear HO_104003
                                      clear HO123
                                      clear BK103
                                      clear BK104
                                      clear BK113
                                      clear HB
                                      have HO_3 := n0_
                                      have HO_52 := n1_
                                      have HO_104003 := n2_
                                      have HO123 := n3_
                                      have HO118 := n4_
                                      have BK103 := n5_
                                      have BK104 := n6_
                                      have BK113 := n7_
                                      have HB := n8_
                                      clear n0_ n1_ n2_ n3_ n4_ n5_ n6_ n7_ n8_
                                      (try clear hb)
                                      (try clear hb2)
                                      (try clear hk)
                                      (try clear hi)
                                      (try clear ho0)
                                      refine hK.out _ _ ⟨(blk_cell BK103.out 0).trans rfl, (blk_cell BK103.out 1).trans rfl, (blk_cell BK103.out 2).trans rfl, (blk_cell BK103.out 3).trans rfl⟩ (fun hHeld => ?_)
                                      clear hK K
                                      refine norm_ (a' := ?_) ?_ ?_
                                      rotate_left
                                      · show Act.put _ (some 85) _ = _
                                        simp only [Act.put, List.setIfInBounds_toArray, List.set_cons_zero, List.set_cons_succ, i64_w, i32_w]
                                        rfl
                                      refine one_ (i := 6) (N := some 89) #[true, true, true, true, true, true, true, false] rfl rfl (one_of HT_.out (by kernel_rfl)) (by decide) (fun K hK => ?_)
                                      refine Kd.R_append_rows_step k36 (w0 := w) w.heap.size (by rfl) (.tmp 85) (.tmp 88) 23 36 (.agg #[(.int .u64 0), (.string ⟨#[]⟩)]) 24 rfl Try.underlying23 info36 rfl (by decide) (by omega) v117 t116 y119 _ _ _ (fun k_ => (w.heap.size ≤ k_) ∧ k_ ≠ gb113) (fun _ => False) rfl rfl ?aO ?aR (fun _ _ h => h) (fun _ h => h.elim) ?aF ?aB ?aS ?aL ?_
                                      (case aR => repeat (first | exact (Kd.V_reads' HO123.out).2.2 | (with_reducible refine Kd.C_alloc ?_ _) | (with_reducible refine Kd.C_drewN ?_ _) | (with_reducible refine Kd.C_drew ?_)))
                                      (case aB => exact (by repeat (first | (with_reducible first | exact HB.out | apply below_alloc | apply pw_below_drewN | apply below_drew1 | refine below_set ?_ GE103.out | refine below_set ?_ GE104.out | refine below_set ?_ GE113.out) | exact HB.out)))
                                      (case aF => exact (fun k_ hk => ⟨(Nat.le_trans (below_size (by repeat (first | (with_reducible first | exact HB.out | apply below_alloc | apply pw_below_drewN | apply below_drew1 | refine below_set ?_ GE103.out | refine below_set ?_ GE104.out | refine below_set ?_ GE113.out) | exact HB.out))) hk), Kd.freshB (g := gb113) (o := .cells #[.int .u64 ((rd_T36 x3_4 x54_3).f0), .string ((rd_T36 x3_4 x54_3).f1)] 36 (0, 0)) (by (with_reducible repeat (first | refine blk_drewN ?_ _ | refine blk_drew ?_ | refine blk_alloc ?_ _)); exact BK113.out) k_ hk⟩))
                                      (case aO => exact (by (with_reducible repeat (first | apply Kd.R_alloc | apply Kd.R_drewN | apply Kd.R_drew)); exact Kd.R_mono HO118.out (fun _ hk => ⟨hk.1.1, hk.2⟩)))
                                      (case aS => exact (below_size (by repeat (first | (with_reducible first | exact HB.out | apply below_alloc | apply pw_below_drewN | apply below_drew1 | refine below_set ?_ GE103.out | refine below_set ?_ GE104.out | refine below_set ?_ GE113.out) | exact HB.out))))
                                      (case aL => have := LMc49.out; omega)
                                      intro v125 w69 ho hb hg hat
                                      rw [← Ny124.out] at ho
                                      have n0_ := Aside0.mk (Kd.V_afterv (ok := (fun k_ => ((P0_3_ k_ ∨ P3_ k_) ∨ w.heap.size ≤ k_) ∧ k_ ≠ gb103 ∧ k_ ≠ gb104 ∧ k_ ≠ gb113)) (by (with_reducible repeat (first | apply Kd.V_alloc | apply Kd.V_drewN | apply Kd.V_drew)); exact HO_3.out) hg hat)
                                      have n1_ := Aside0.mk (Kd.V_afterv (ok := (fun k_ => ((P0_3_ k_ ∨ P3_ k_) ∨ w.heap.size ≤ k_) ∧ k_ ≠ gb103 ∧ k_ ≠ gb104 ∧ k_ ≠ gb113)) (by (with_reducible repeat (first | apply Kd.V_alloc | apply Kd.V_drewN | apply Kd.V_drew)); exact HO_52.out) hg hat)
                                      have n2_ := Aside0.mk (Kd.V_afterv (ok := (fun k_ => ((P0_3_ k_ ∨ P3_ k_) ∨ w.heap.size ≤ k_) ∧ k_ ≠ gb103 ∧ k_ ≠ gb104 ∧ k_ ≠ gb113)) (by (with_reducible repeat (first | apply Kd.V_alloc | apply Kd.V_drewN | apply Kd.V_drew)); exact HO_104003.out) hg hat)
                                      have n3_ := Aside0.mk (blk_grown (g := gb103) (o := .cells #[.int .u64 a0_0, .int .u64 a0_1, .string a0_2, .slice A0_3 l0_3.length c0_3] 25 (0, 0)) (by (with_reducible repeat (first | refine blk_drewN ?_ _ | refine blk_drew ?_ | refine blk_alloc ?_ _)); exact BK103.out) hg (Kd.R_ne HO118.out BK103.out (by decide)))
                                      have n4_ := Aside0.mk (blk_grown (g := gb104) (o := .cells #[.int .u64 x105000_3, .int .u64 x105001_3, .string x105002_3, .slice none 0 0] 25 (0, 0)) (by (with_reducible repeat (first | refine blk_drewN ?_ _ | refine blk_drew ?_ | refine blk_alloc ?_ _)); exact BK104.out) hg (Kd.R_ne HO118.out BK104.out (by decide)))
                                      have n5_ := Aside0.mk (blk_grown (g := gb113) (o := .cells #[.int .u64 ((rd_T36 x3_4 x54_3).f0), .string ((rd_T36 x3_4 x54_3).f1)] 36 (0, 0)) (by (with_reducible repeat (first | refine blk_drewN ?_ _ | refine blk_drew ?_ | refine blk_alloc ?_ _)); exact BK113.out) hg (Kd.R_away HO118.out (fun _ hk => hk.2)))
                                      have n6_ := Aside0.mk (Kd.V_afterv (ok := (fun k_ => ((P0_3_ k_ ∨ P3_ k_) ∨ w.heap.size ≤ k_) ∧ k_ ≠ gb103 ∧ k_ ≠ gb104 ∧ k_ ≠ gb113)) (by (with_reducible repeat (first | apply Kd.V_alloc | apply Kd.V_drewN | apply Kd.V_drew)); exact HO123.out) hg hat)
                                      have n7_ := Aside0.mk (hb)
                                      have n8_ := Aside0.mk (ho)
                                      clear HO_3
                                      clear HO_52
                                      clear HO_104003
                                      clear BK103
                                      clear BK104
                                      clear BK113
                                      clear HO123
                                      clear HB
                                      clear HO118
                                      have HO_3 := n0_
                                      have HO_52 := n1_
                                      have HO_104003 := n2_
                                      have BK103 := n3_
                                      have BK104 := n4_
                                      have BK113 := n5_
                                      have HO123 := n6_
                                      have HB := n7_
                                      have HO126 := n8_
                                      clear n0_ n1_ n2_ n3_ n4_ n5_ n6_ n7_ n8_
                                      clear ho hb hg hat
                                      refine hK.out _ _ ⟨(blk_cell BK103.out 0).trans rfl, (blk_cell BK103.out 1).trans rfl, (blk_cell BK103.out 2).trans rfl, (blk_cell BK103.out 3).trans rfl⟩ (fun hHeld => ?_)
                                      clear hK K
                                      refine norm_ (a' := ?_) ?_ ?_
                                      rotate_left
                                      · show Act.put _ (some 89) _ = _
                                        simp only [Act.put, List.setIfInBounds_toArray, List.set_cons_zero, List.set_cons_succ, i64_w, i32_w]
                                        rfl
                                      refine pure_ (i := 7) (N := some 19) (v := ?_) (a' := ?_) #[true, true, true, true, true, true, true, true] rfl rfl (any_of HT_.out (by kernel_rfl)) (fun _ _ _ h => h) (Or.inl ⟨by rfl, ?_⟩) ?_ ?_
                                      rotate_left
                                      · intro w'
                                        go_simp
                                        with_reducible rfl
                                      rotate_left
                                      · simp only [Act.put, List.setIfInBounds_toArray, List.set_cons_zero, List.set_cons_succ, i64_w, i32_w]
                                        rfl
                                      refine done_ (done_of HT_.out (by kernel_rfl)) ?_
                                      obtain ⟨Ao70, co70, eo70⟩ := Kd.R_slice HO126.out
                                      subst eo70
                                      have hcz71_0 : w69.cell? ⟨gb103, 0, none⟩ = some (.int .u64 a0_0) := (blk_cell BK103.out 0).trans rfl
                                      have hcz71_1 : w69.cell? ⟨gb103, 1, none⟩ = some (.int .u64 a0_1) := (blk_cell BK103.out 1).trans rfl
                                      have hcz71_2 : w69.cell? ⟨gb103, 2, none⟩ = some (.string a0_2) := (blk_cell BK103.out 2).trans rfl
                                      have hcz71_3 : w69.cell? ⟨gb103, 3, none⟩ = some (.slice A0_3 l0_3.length c0_3) := (blk_cell BK103.out 3).trans rfl
                                      have hfz71_0 := blk_frozen BK103.out 0
                                      have hfz71_1 := blk_frozen BK103.out 1
                                      have hfz71_2 := blk_frozen BK103.out 2
                                      have hfz71_3 := blk_frozen BK103.out 3
                                      have hnb72 := NB104_113.out
                                      have hnc72 := NB113_104.out
                                      have hcz73_0 : w69.cell? ⟨gb104, 0, none⟩ = some (.int .u64 x105000_3) := (blk_cell BK104.out 0).trans rfl
                                      have hcz73_1 : w69.cell? ⟨gb104, 1, none⟩ = some (.int .u64 x105001_3) := (blk_cell BK104.out 1).trans rfl
                                      have hcz73_2 : w69.cell? ⟨gb104, 2, none⟩ = some (.string x105002_3) := (blk_cell BK104.out 2).trans rfl
                                      have hcz73_3 : w69.cell? ⟨gb104, 3, none⟩ = some (.slice none 0 0) := (blk_cell BK104.out 3).trans rfl
                                      have hfz73_0 := blk_frozen BK104.out 0
                                      have hfz73_1 := blk_frozen BK104.out 1
                                      have hfz73_2 := blk_frozen BK104.out 2
                                      have hfz73_3 := blk_frozen BK104.out 3
                                      try go_wp2
                                      refine bodyPost_ret (results_ctt rfl _ _ gb104 25 #[.int .u64 a0_0, .int .u64 a0_1, .string a0_2, .slice A0_3 l0_3.length c0_3] (0, 0) _ rfl (by (with_reducible repeat (first | refine blk_drewN ?_ _ | refine blk_drew ?_ | refine blk_alloc ?_ _)); refine blk_put (cs := #[.int .u64 a0_0, .int .u64 a0_1, .string a0_2, .slice none 0 0]) ?_ 3 _ rfl; (with_reducible repeat (first | refine blk_drewN ?_ _ | refine blk_drew ?_ | refine blk_alloc ?_ _)); refine blk_put (cs := #[.int .u64 a0_0, .int .u64 a0_1, .string x105002_3, .slice none 0 0]) ?_ 2 _ rfl; (with_reducible repeat (first | refine blk_drewN ?_ _ | refine blk_drew ?_ | refine blk_alloc ?_ _)); refine blk_put (cs := #[.int .u64 a0_0, .int .u64 x105001_3, .string x105002_3, .slice none 0 0]) ?_ 1 _ rfl; (with_reducible repeat (first | refine blk_drewN ?_ _ | refine blk_drew ?_ | refine blk_alloc ?_ _)); refine blk_put (cs := #[.int .u64 x105000_3, .int .u64 x105001_3, .string x105002_3, .slice none 0 0]) ?_ 0 _ rfl; (with_reducible repeat (first | refine blk_drewN ?_ _ | refine blk_drew ?_ | refine blk_alloc ?_ _)); exact BK104.out) Try.underlying25 rfl (by kernel_rfl)) rfl ?_
                                      exact ⟨_, by first | rfl | (simp [errW_none, errW_some] <;> rfl) | (simp [*, errW_none, errW_some] <;> rfl), by (with_reducible repeat (first | apply Kd.V_alloc | apply Kd.V_drewN | apply Kd.V_drew)); exact Kd.V_mono (Kd.V_far (p := ⟨gb104, 3, none⟩) (Kd.V_far (p := ⟨gb104, 2, none⟩) (Kd.V_far (p := ⟨gb104, 1, none⟩) (Kd.V_far (p := ⟨gb104, 0, none⟩) (Kd.V_mono HO_104003.out (fun k_ hk => (⟨hk, hk.1.2.2.1⟩ : _ ∧ k_ ≠ gb104))) (fun _ hk => hk.2) (.int .u64 a0_0)) (fun _ hk => hk.2) (.int .u64 a0_1)) (fun _ hk => hk.2) (.string a0_2)) (fun _ hk => hk.2) (.slice A0_3 l0_3.length c0_3)) (fun _ hk => hk.1.1.1), by repeat (first | (with_reducible first | exact HB.out | apply below_alloc | apply pw_below_drewN | apply below_drew1 | refine below_set ?_ GE103.out | refine below_set ?_ GE104.out | refine below_set ?_ GE113.out) | exact HB.out)⟩
                                    · rw [if_neg c62] at H
                                      have c62b0 : decide (1099511627776 < (IntKind.u64.wrap (a0_0 + (IntKind.u64.wrap ((y124.length : Int)))))) = false := decide_eq_false c62
                                      clear c62
                                      replace H := Option.bind_eq_some_iff.mp H
                                      obtain ⟨⟨t127, t128, t129, t130⟩, A740, H⟩ := H
                                      replace H : (some (t127, t128, t129, t130, (IntKind.u64.wrap ((IntKind.u64.wrap (x1_4 + (IntKind.u64.wrap (x54_3)))) + 1)), true)) = some (r1, r2, r3, r4, r5, r6) := H
                                      have A74 := Aside0.mk A740
                                      clear A740
                                      simp only [Option.some.injEq, Prod.mk.injEq] at H
                                      obtain ⟨rfl, rfl, rfl, rfl, rfl, rfl⟩ := H
                                      have hnb75 := NB103_104.out
                                      have hnc75 := NB104_103.out
                                      have hnb76 := NB103_113.out
                                      have hnc76 := NB113_103.out
                                      have hcz77_0 : wc.cell? ⟨gb103, 0, none⟩ = some (.int .u64 a0_0) := (blk_cell BK103.out 0).trans rfl
                                      have hcz77_1 : wc.cell? ⟨gb103, 1, none⟩ = some (.int .u64 a0_1) := (blk_cell BK103.out 1).trans rfl
                                      have hcz77_2 : wc.cell? ⟨gb103, 2, none⟩ = some (.string a0_2) := (blk_cell BK103.out 2).trans rfl
                                      have hcz77_3 : wc.cell? ⟨gb103, 3, none⟩ = some (.slice A0_3 l0_3.length c0_3) := (blk_cell BK103.out 3).trans rfl
                                      have hfz77_0 := blk_frozen BK103.out 0
                                      have hfz77_1 := blk_frozen BK103.out 1
                                      have hfz77_2 := blk_frozen BK103.out 2
                                      have hfz77_3 := blk_frozen BK103.out 3
                                      try go_wp2
                                      have n0_ := Aside0.mk (Kd.V_drew HO_3.out)
                                      have n1_ := Aside0.mk (Kd.V_drew HO_52.out)
                                      have n2_ := Aside0.mk (Kd.V_drew HO_104003.out)
                                      have n3_ := Aside0.mk (blk_drew BK103.out)
                                      have n4_ := Aside0.mk (blk_drew BK104.out)
                                      have n5_ := Aside0.mk (blk_drew BK113.out)
                                      have n6_ := Aside0.mk (below_drew1 HB.out)
                                      clear HO_3
                                      clear HO_52
                                      clear HO_104003
                                      clear BK103
                                      clear BK104
                                      clear BK113
                                      clear HB
                                      have HO_3 := n0_
                                      have HO_52 := n1_
                                      have HO_104003 := n2_
                                      have BK103 := n3_
                                      have BK104 := n4_
                                      have BK113 := n5_
                                      have HB := n6_
                                      clear n0_ n1_ n2_ n3_ n4_ n5_ n6_
                                      have q79 : (x54_3 : Int) ≤ ((x3_4.length : Int) : Int) := of_decide_eq_true (by first | (with_reducible assumption) | assumption)
                                      obtain ⟨i079, hi079, _, hsz79, _⟩ := info_parts info36
                                      have hroom79 : x3_4.length ≤ co28 := (Kd.V_reads' HO_3.out).2.1
                                      have hC79 : Kd.F k36 _ _ (some ad112) x3_4.length x3_4 := (Kd.V_at (base := w.heap.size) HO_3.out).2.2
                                      have q079 : (0 : Int) ≤ (x54_3 : Int) := of_decide_eq_true (by first | (with_reducible assumption) | assumption)
                                      have hcut79 := cut_from (P := Try.prog) 23 36 .i64 Try.underlying23 hi079 2 hsz79 (some ad112) x3_4.length co28 x54_3 q079 q79
                                      have hr79 := Kd.F_cut (m := (x54_3 : Int).toNat) (c := co28) hC79 (by omega) hroom79
                                      obtain ⟨A79, hA79⟩ : ∃ A1, A1 = (if co28 = (x54_3 : Int).toNat then (some ad112) else ((some ad112) : Option Addr).map (·.add ((x54_3 : Int).toNat * 2))) := ⟨_, rfl⟩
                                      obtain ⟨c79, hc79⟩ : ∃ c1, c1 = co28 - (x54_3 : Int).toNat := ⟨_, rfl⟩
                                      have hy79 : y119.length = x3_4.length - (x54_3 : Int).toNat := (by rw [Ny119.out, List.length_drop] <;> omega)
                                      rw [show (x3_4).drop (x54_3 : Int).toNat = y119 from Ny119.out.symm] at hr79
                                      replace hr79 : Kd.F k36 _ _ A79 y119.length y119 := (by rw [hA79]; exact hr79)
                                      rw [← hy79, ← hA79, ← hc79] at hcut79
                                      have HO123 := Aside0.mk (show Kd.V k36 36 _ w.heap.size _ (.slice A79 y119.length c79) y119 from Kd.V_mk (by rw [hy79, hc79]; exact Nat.sub_le_sub_right hroom79 _) hr79)
                                      have HC123 := Aside0.mk (show y119.length ≤ c79 from by rw [hy79, hc79]; exact Nat.sub_le_sub_right hroom79 _)
                                      clear hr79 hC79 hroom79 hi079 hsz79 hc79
                                      have KY79 := Aside0.mk hy79
                                      have KA79 := Aside0.mk hA79
                                      clear hy79 hA79
                                      replace q79 := eq_true q79
                                      refine start_ (n := 8) (S := fun w' => w'.cell? ⟨gb103, 0, none⟩ = some (.int .u64 a0_0) ∧ w'.cell? ⟨gb103, 1, none⟩ = some (.int .u64 a0_1) ∧ w'.cell? ⟨gb103, 2, none⟩ = some (.string a0_2) ∧ w'.cell? ⟨gb103, 3, none⟩ = some (.slice A0_3 l0_3.length c0_3)) (ds := []) #[false, false, false, false, false, false, false, false] (by kernel_rfl) rfl rfl ⟨(blk_cell BK103.out 0).trans rfl, (blk_cell BK103.out 1).trans rfl, (blk_cell BK103.out 2).trans rfl, (blk_cell BK103.out 3).trans rfl⟩ (fun hHeld => ?_); refine with_tabW rlog_Join.tab14 rlog_Join.bits14 (fun HT_ HW_ => ?_)
                                      generalize wc.drew = w78 at HO_3 HO_52 HO_104003 BK103 BK104 BK113 HB HO123 hHeld ⊢
                                      refine pure_ (i := 1) (N := some 84) (v := ?_) (a' := ?_) #[false, true, false, false, false, false, false, false] rfl rfl (any_of HT_.out (by kernel_rfl)) (fun _ _ _ h => h) (Or.inl ⟨by rfl, ?_⟩) ?_ ?_
                                      rotate_left
                                      · intro w'
                                        go_simp
                                        with_reducible rfl
                                      rotate_left
                                      · simp only [Act.put, List.setIfInBounds_toArray, List.set_cons_zero, List.set_cons_succ, i64_w, i32_w]
                                        rfl
                                      refine pure_ (i := 3) (N := some 86) (v := ?_) (a' := ?_) #[false, true, false, true, false, false, false, false] rfl rfl (any_of HT_.out (by kernel_rfl)) (fun _ _ _ h => h) (Or.inl ⟨by rfl, ?_⟩) ?_ ?_
                                      rotate_left
                                      · intro w'
                                        go_simp
                                        with_reducible rfl
                                      rotate_left
                                      · simp only [Act.put, List.setIfInBounds_toArray, List.set_cons_zero, List.set_cons_succ, i64_w, i32_w]
                                        rfl
                                      refine pure_ (i := 4) (N := some 87) (v := ?_) (a' := ?_) #[false, true, false, true, true, false, false, false] rfl rfl (any_of HT_.out (by kernel_rfl)) (fun _ _ _ h => h) (Or.inl ⟨by rfl, ?_⟩) ?_ ?_
                                      rotate_left
                                      · intro w'
                                        go_simp
                                        with_reducible rfl
                                      rotate_left
                                      · simp only [Act.put, List.setIfInBounds_toArray, List.set_cons_zero, List.set_cons_succ, i64_w, i32_w]
                                        rfl
                                      refine pure_ (i := 5) (N := some 88) (v := ?_) (a' := ?_) #[false, true, false, true, true, true, false, false] rfl rfl (any_of HT_.out (by kernel_rfl)) (fun _ _ _ h => h) (Or.inl ⟨by rfl, ?_⟩) ?_ ?_
                                      rotate_left
                                      · intro w'
                                        go_simp
                                        with_reducible rfl
                                      rotate_left
                                      · simp only [Act.put, List.setIfInBounds_toArray, List.set_cons_zero, List.set_cons_succ, i64_w, i32_w]
                                        rfl
                                      refine take_ (i := 0) (N := some 83) (v := ?_) (a' := ?_) #[true, true, false, true, true, true, false, false] rfl rfl (take_ofW HT_.out HW_.out (by kernel_rfl)) (fun _ _ _ h => h) (Or.inl ⟨by rfl, ?_⟩) hHeld ?_ ?_
                                      rotate_left
                                      · rintro w' ⟨s0, s1, s2, s3⟩
                                        go_simp
                                        with_reducible rfl
                                      rotate_left
                                      · simp only [Act.put, List.setIfInBounds_toArray, List.set_cons_zero, List.set_cons_succ, i64_w, i32_w]
                                        rfl
                                      refine one_ (i := 2) (N := some 85) #[true, true, true, true, true, true, false, false] rfl rfl (one_of HT_.out (by kernel_rfl)) (by decide) (fun K hK => ?_)
                                      refine goes_ Try.func31 (by kernel_rfl) rfl #[.agg #[.int .u64 a0_0, .int .u64 a0_1, .string a0_2, .slice A0_3 l0_3.length c0_3], .int .i64 (wrap64 (IntKind.u64.wrap ((IntKind.u64.wrap ((IntKind.u64.wrap ((IntKind.u64.wrap (x1_4 + (IntKind.u64.wrap (x54_3)))) + 1)) - a0_0)) - 1)))] (by rfl) rfl rfl (by (try simp only [List.map_toArray, List.map_cons, List.map_nil]); first | done | rfl | (simp only [List.length_drop, List.length_take]; rfl)) ?_
                                      with_reducible refine (rlog_own.calls a0_0 a0_1 a0_2 _ _ l0_3 (wrap64 (IntKind.u64.wrap ((IntKind.u64.wrap ((IntKind.u64.wrap ((IntKind.u64.wrap (x1_4 + (IntKind.u64.wrap (x54_3)))) + 1)) - a0_0)) - 1))) t116 _ ?side1 ?side2 A46.out).mono ?_
                                      (case side1 => repeat (first | exact (Kd.V_reads' HO_104003.out).2.2 | (with_reducible refine Kd.C_alloc ?_ _) | (with_reducible refine Kd.C_drewN ?_ _) | (with_reducible refine Kd.C_drew ?_)))
                                      (case side2 => exact (Kd.V_reads' HO_104003.out).2.1)
                                      rintro e w80 ⟨v117, rfl, ho0, hb⟩
                                      refine ⟨_, rfl, ?_⟩
                                      have n0_ := Aside0.mk (Kd.V_elder' (by (with_reducible repeat (first | apply Kd.V_alloc | apply Kd.V_drewN | apply Kd.V_drew)); exact HO_3.out) (Kd.R_base ho0) hb)
                                      have n1_ := Aside0.mk (Kd.V_elder' (by (with_reducible repeat (first | apply Kd.V_alloc | apply Kd.V_drewN | apply Kd.V_drew)); exact HO_52.out) (Kd.R_base ho0) hb)
                                      have n2_ := Aside0.mk (Kd.V_elder' (by (with_reducible repeat (first | apply Kd.V_alloc | apply Kd.V_drewN | apply Kd.V_drew)); exact HO_104003.out) (Kd.R_base ho0) hb)
                                      have n3_ := Aside0.mk (Kd.V_elder' (by (with_reducible repeat (first | apply Kd.V_alloc | apply Kd.V_drewN | apply Kd.V_drew)); exact HO123.out) (Kd.R_base ho0) hb)
                                      have n4_ := Aside0.mk (Kd.R_lower (Kd.R_newB (Kd.R_newM (M := fun k_ => (w.heap.size ≤ k_)) ho0 (below_size (by repeat (first | (with_reducible first | exact HB.out | apply below_alloc | apply pw_below_drewN | apply below_drew1 | refine below_set ?_ GE103.out | refine below_set ?_ GE104.out | refine below_set ?_ GE113.out) | exact HB.out))) (fun k_ h_ => h_)) (g := gb113) (o := .cells #[.int .u64 ((rd_T36 x3_4 x54_3).f0), .string ((rd_T36 x3_4 x54_3).f1)] 36 (0, 0)) (by (with_reducible repeat (first | refine blk_drewN ?_ _ | refine blk_drew ?_ | refine blk_alloc ?_ _)); exact BK113.out)) (below_size (by repeat (first | (with_reducible first | exact HB.out | apply below_alloc | apply pw_below_drewN | apply below_drew1 | refine below_set ?_ GE103.out | refine below_set ?_ GE104.out | refine below_set ?_ GE113.out) | exact HB.out))))
                                      have n5_ := Aside0.mk (blk_below (g := gb103) (o := .cells #[.int .u64 a0_0, .int .u64 a0_1, .string a0_2, .slice A0_3 l0_3.length c0_3] 25 (0, 0)) (by (with_reducible repeat (first | refine blk_drewN ?_ _ | refine blk_drew ?_ | refine blk_alloc ?_ _)); exact BK103.out) hb)
                                      have n6_ := Aside0.mk (blk_below (g := gb104) (o := .cells #[.int .u64 x105000_3, .int .u64 x105001_3, .string x105002_3, .slice none 0 0] 25 (0, 0)) (by (with_reducible repeat (first | refine blk_drewN ?_ _ | refine blk_drew ?_ | refine blk_alloc ?_ _)); exact BK104.out) hb)
                                      have n7_ := Aside0.mk (blk_below (g := gb113) (o := .cells #[.int .u64 ((rd_T36 x3_4 x54_3).f0), .string ((rd_T36 x3_4 x54_3).f1)] 36 (0, 0)) (by (with_reducible repeat (first | refine blk_drewN ?_ _ | refine blk_drew ?_ | refine blk_alloc ?_ _)); exact BK113.out) hb)
                                      have n8_ := Aside0.mk (below_step (by repeat (first | (with_reducible first | exact HB.out | apply below_alloc | apply pw_below_drewN | apply below_drew1 | refine below_set ?_ GE103.out | refine below_set ?_ GE104.out | refine below_set ?_ GE113.out) | exact HB.out)) hb)
                                      clear HO_3
                                      clear HO_52
                                      clear HO_104003
                                      clear HO123
                                      clear BK103
                                      clear BK104
                                      clear BK113
                                      clear HB
                                      have HO_3 := n0_
                                      have HO_52 := n1_
                                      have HO_104003 := n2_
                                      have HO123 := n3_
                                      have HO118 := n4_
                                      have BK103 := n5_
                                      have BK104 := n6_
                                      have BK113 := n7_
                                      have HB := n8_
                                      clear n0_ n1_ n2_ n3_ n4_ n5_ n6_ n7_ n8_
                                      (try clear hb)
                                      (try clear hb2)
                                      (try clear hk)
                                      (try clear hi)
                                      (try clear ho0)
                                      refine hK.out _ _ ⟨(blk_cell BK103.out 0).trans rfl, (blk_cell BK103.out 1).trans rfl, (blk_cell BK103.out 2).trans rfl, (blk_cell BK103.out 3).trans rfl⟩ (fun hHeld => ?_)
                                      clear hK K
                                      refine norm_ (a' := ?_) ?_ ?_
                                      rotate_left
                                      · show Act.put _ (some 85) _ = _
                                        simp only [Act.put, List.setIfInBounds_toArray, List.set_cons_zero, List.set_cons_succ, i64_w, i32_w]
                                        rfl
                                      refine one_ (i := 6) (N := some 89) #[true, true, true, true, true, true, true, false] rfl rfl (one_of HT_.out (by kernel_rfl)) (by decide) (fun K hK => ?_)
                                      refine Kd.R_append_rows_step k36 (w0 := w) w.heap.size (by rfl) (.tmp 85) (.tmp 88) 23 36 (.agg #[(.int .u64 0), (.string ⟨#[]⟩)]) 24 rfl Try.underlying23 info36 rfl (by decide) (by omega) v117 t116 y119 _ _ _ (fun k_ => (w.heap.size ≤ k_) ∧ k_ ≠ gb113) (fun _ => False) rfl rfl ?aO ?aR (fun _ _ h => h) (fun _ h => h.elim) ?aF ?aB ?aS ?aL ?_
                                      (case aR => repeat (first | exact (Kd.V_reads' HO123.out).2.2 | (with_reducible refine Kd.C_alloc ?_ _) | (with_reducible refine Kd.C_drewN ?_ _) | (with_reducible refine Kd.C_drew ?_)))
                                      (case aB => exact (by repeat (first | (with_reducible first | exact HB.out | apply below_alloc | apply pw_below_drewN | apply below_drew1 | refine below_set ?_ GE103.out | refine below_set ?_ GE104.out | refine below_set ?_ GE113.out) | exact HB.out)))
                                      (case aF => exact (fun k_ hk => ⟨(Nat.le_trans (below_size (by repeat (first | (with_reducible first | exact HB.out | apply below_alloc | apply pw_below_drewN | apply below_drew1 | refine below_set ?_ GE103.out | refine below_set ?_ GE104.out | refine below_set ?_ GE113.out) | exact HB.out))) hk), Kd.freshB (g := gb113) (o := .cells #[.int .u64 ((rd_T36 x3_4 x54_3).f0), .string ((rd_T36 x3_4 x54_3).f1)] 36 (0, 0)) (by (with_reducible repeat (first | refine blk_drewN ?_ _ | refine blk_drew ?_ | refine blk_alloc ?_ _)); exact BK113.out) k_ hk⟩))
                                      (case aO => exact (by (with_reducible repeat (first | apply Kd.R_alloc | apply Kd.R_drewN | apply Kd.R_drew)); exact Kd.R_mono HO118.out (fun _ hk => ⟨hk.1.1, hk.2⟩)))
                                      (case aS => exact (below_size (by repeat (first | (with_reducible first | exact HB.out | apply below_alloc | apply pw_below_drewN | apply below_drew1 | refine below_set ?_ GE103.out | refine below_set ?_ GE104.out | refine below_set ?_ GE113.out) | exact HB.out))))
                                      (case aL => have := LMc49.out; omega)
                                      intro v125 w81 ho hb hg hat
                                      rw [← Ny124.out] at ho
                                      have n0_ := Aside0.mk (Kd.V_afterv (ok := (fun k_ => ((P0_3_ k_ ∨ P3_ k_) ∨ w.heap.size ≤ k_) ∧ k_ ≠ gb103 ∧ k_ ≠ gb104 ∧ k_ ≠ gb113)) (by (with_reducible repeat (first | apply Kd.V_alloc | apply Kd.V_drewN | apply Kd.V_drew)); exact HO_3.out) hg hat)
                                      have n1_ := Aside0.mk (Kd.V_afterv (ok := (fun k_ => ((P0_3_ k_ ∨ P3_ k_) ∨ w.heap.size ≤ k_) ∧ k_ ≠ gb103 ∧ k_ ≠ gb104 ∧ k_ ≠ gb113)) (by (with_reducible repeat (first | apply Kd.V_alloc | apply Kd.V_drewN | apply Kd.V_drew)); exact HO_52.out) hg hat)
                                      have n2_ := Aside0.mk (Kd.V_afterv (ok := (fun k_ => ((P0_3_ k_ ∨ P3_ k_) ∨ w.heap.size ≤ k_) ∧ k_ ≠ gb103 ∧ k_ ≠ gb104 ∧ k_ ≠ gb113)) (by (with_reducible repeat (first | apply Kd.V_alloc | apply Kd.V_drewN | apply Kd.V_drew)); exact HO_104003.out) hg hat)
                                      have n3_ := Aside0.mk (blk_grown (g := gb103) (o := .cells #[.int .u64 a0_0, .int .u64 a0_1, .string a0_2, .slice A0_3 l0_3.length c0_3] 25 (0, 0)) (by (with_reducible repeat (first | refine blk_drewN ?_ _ | refine blk_drew ?_ | refine blk_alloc ?_ _)); exact BK103.out) hg (Kd.R_ne HO118.out BK103.out (by decide)))
                                      have n4_ := Aside0.mk (blk_grown (g := gb104) (o := .cells #[.int .u64 x105000_3, .int .u64 x105001_3, .string x105002_3, .slice none 0 0] 25 (0, 0)) (by (with_reducible repeat (first | refine blk_drewN ?_ _ | refine blk_drew ?_ | refine blk_alloc ?_ _)); exact BK104.out) hg (Kd.R_ne HO118.out BK104.out (by decide)))
                                      have n5_ := Aside0.mk (blk_grown (g := gb113) (o := .cells #[.int .u64 ((rd_T36 x3_4 x54_3).f0), .string ((rd_T36 x3_4 x54_3).f1)] 36 (0, 0)) (by (with_reducible repeat (first | refine blk_drewN ?_ _ | refine blk_drew ?_ | refine blk_alloc ?_ _)); exact BK113.out) hg (Kd.R_away HO118.out (fun _ hk => hk.2)))
                                      have n6_ := Aside0.mk (Kd.V_afterv (ok := (fun k_ => ((P0_3_ k_ ∨ P3_ k_) ∨ w.heap.size ≤ k_) ∧ k_ ≠ gb103 ∧ k_ ≠ gb104 ∧ k_ ≠ gb113)) (by (with_reducible repeat (first | apply Kd.V_alloc | apply Kd.V_drewN | apply Kd.V_drew)); exact HO123.out) hg hat)
                                      have n7_ := Aside0.mk (hb)
                                      have n8_ := Aside0.mk (ho)
                                      clear HO_3
                                      clear HO_52
                                      clear HO_104003
                                      clear BK103
                                      clear BK104
                                      clear BK113
                                      clear HO123
                                      clear HB
                                      clear HO118
                                      have HO_3 := n0_
                                      have HO_52 := n1_
                                      have HO_104003 := n2_
                                      have BK103 := n3_
                                      have BK104 := n4_
                                      have BK113 := n5_
                                      have HO123 := n6_
                                      have HB := n7_
                                      have HO126 := n8_
                                      clear n0_ n1_ n2_ n3_ n4_ n5_ n6_ n7_ n8_
                                      clear ho hb hg hat
                                      refine hK.out _ _ ⟨(blk_cell BK103.out 0).trans rfl, (blk_cell BK103.out 1).trans rfl, (blk_cell BK103.out 2).trans rfl, (blk_cell BK103.out 3).trans rfl⟩ (fun hHeld => ?_)
                                      clear hK K
                                      refine norm_ (a' := ?_) ?_ ?_
                                      rotate_left
                                      · show Act.put _ (some 89) _ = _
                                        simp only [Act.put, List.setIfInBounds_toArray, List.set_cons_zero, List.set_cons_succ, i64_w, i32_w]
                                        rfl
                                      refine pure_ (i := 7) (N := some 19) (v := ?_) (a' := ?_) #[true, true, true, true, true, true, true, true] rfl rfl (any_of HT_.out (by kernel_rfl)) (fun _ _ _ h => h) (Or.inl ⟨by rfl, ?_⟩) ?_ ?_
                                      rotate_left
                                      · intro w'
                                        go_simp
                                        with_reducible rfl
                                      rotate_left
                                      · simp only [Act.put, List.setIfInBounds_toArray, List.set_cons_zero, List.set_cons_succ, i64_w, i32_w]
                                        rfl
                                      refine done_ (done_of HT_.out (by kernel_rfl)) ?_
                                      obtain ⟨Ao82, co82, eo82⟩ := Kd.R_slice HO126.out
                                      subst eo82
                                      have hcz83_0 : w81.cell? ⟨gb103, 0, none⟩ = some (.int .u64 a0_0) := (blk_cell BK103.out 0).trans rfl
                                      have hcz83_1 : w81.cell? ⟨gb103, 1, none⟩ = some (.int .u64 a0_1) := (blk_cell BK103.out 1).trans rfl
                                      have hcz83_2 : w81.cell? ⟨gb103, 2, none⟩ = some (.string a0_2) := (blk_cell BK103.out 2).trans rfl
                                      have hcz83_3 : w81.cell? ⟨gb103, 3, none⟩ = some (.slice A0_3 l0_3.length c0_3) := (blk_cell BK103.out 3).trans rfl
                                      have hfz83_0 := blk_frozen BK103.out 0
                                      have hfz83_1 := blk_frozen BK103.out 1
                                      have hfz83_2 := blk_frozen BK103.out 2
                                      have hfz83_3 := blk_frozen BK103.out 3
                                      try go_wp2_with (first | ((with_reducible refine gate_callee (f := 32) rfl ?_); refine goesL_ (some 105) rfl rfl Try.func32 (by kernel_rfl) rfl #[.agg #[.int .u64 a0_0, .int .u64 a0_1, .string a0_2, .slice A0_3 l0_3.length c0_3], .slice Ao82 y124.length co82] rfl (by (try simp only [List.map_toArray, List.map_cons, List.map_nil]); first | done | rfl | (simp only [List.length_drop, List.length_take]; rfl)) ?_; (with_reducible refine (rlog_with.calls a0_0 a0_1 a0_2 _ _ l0_3 (fun k_ => some k_ = (.slice Ao82 y124.length co82 : Value).ownBlock) _ _ y124 t127 t128 t129 t130 _ ?side1 ?side2 ?side3 A74.out).mono ?_); (case side1 => repeat (first | exact (Kd.V_reads' HO_104003.out).2.2 | (with_reducible refine Kd.C_alloc ?_ _) | (with_reducible refine Kd.C_drewN ?_ _) | (with_reducible refine Kd.C_drew ?_))); (case side2 => exact (Kd.V_reads' HO_104003.out).2.1); (case side3 => exact Kd.R_V (Kd.R_tight rfl (Kd.R_types (Kd.R_types (HO126.out) BK103.out (by decide)) BK104.out (by decide)))); rintro e w84 ⟨v131, rfl, ho0, hb⟩; refine ⟨_, rfl, ?_⟩; have n0_ := Aside0.mk (Kd.V_below (by (with_reducible repeat (first | apply Kd.V_alloc | apply Kd.V_drewN | apply Kd.V_drew)); exact HO_3.out) hb); have n1_ := Aside0.mk (Kd.V_below (by (with_reducible repeat (first | apply Kd.V_alloc | apply Kd.V_drewN | apply Kd.V_drew)); exact HO_52.out) hb); have n2_ := Aside0.mk (Kd.V_below (by (with_reducible repeat (first | apply Kd.V_alloc | apply Kd.V_drewN | apply Kd.V_drew)); exact HO_104003.out) hb); have n3_ := Aside0.mk (Kd.V_below (by (with_reducible repeat (first | apply Kd.V_alloc | apply Kd.V_drewN | apply Kd.V_drew)); exact HO123.out) hb); have n4_ := Aside0.mk (Kd.R_below (by (with_reducible repeat (first | apply Kd.R_alloc | apply Kd.R_drewN | apply Kd.R_drew)); exact HO126.out) hb); have n5_ := Aside0.mk (Kd.V_lower (Kd.V_mono (ok' := fun k_ => ((P0_3_ k_ ∨ P3_ k_) ∨ w.heap.size ≤ k_) ∧ k_ ≠ gb103 ∧ k_ ≠ gb104 ∧ k_ ≠ gb113) ho0 (fun k_ hk_ => ⟨Or.elim hk_ (fun hs_ => (.inr (((Kd.R_types (Kd.R_types (HO126.out) BK103.out (by decide)) BK104.out (by decide)).1 k_ hs_.symm).1.1.1))) (fun hn_ => (.inr (Nat.le_trans (below_size (by repeat (first | (with_reducible first | exact HB.out | apply below_alloc | apply pw_below_drewN | apply below_drew1 | refine below_set ?_ GE103.out | refine below_set ?_ GE104.out | refine below_set ?_ GE113.out) | exact HB.out))) hn_))), Or.elim hk_ (fun hs_ => ((Kd.R_types (Kd.R_types (HO126.out) BK103.out (by decide)) BK104.out (by decide)).1 k_ hs_.symm).1.2) (fun hn_ => (Kd.freshB (g := gb103) (o := .cells #[.int .u64 a0_0, .int .u64 a0_1, .string a0_2, .slice A0_3 l0_3.length c0_3] 25 (0, 0)) (by (with_reducible repeat (first | refine blk_drewN ?_ _ | refine blk_drew ?_ | refine blk_alloc ?_ _)); exact BK103.out) k_ hn_)), Or.elim hk_ (fun hs_ => ((Kd.R_types (Kd.R_types (HO126.out) BK103.out (by decide)) BK104.out (by decide)).1 k_ hs_.symm).2) (fun hn_ => (Kd.freshB (g := gb104) (o := .cells #[.int .u64 x105000_3, .int .u64 x105001_3, .string x105002_3, .slice none 0 0] 25 (0, 0)) (by (with_reducible repeat (first | refine blk_drewN ?_ _ | refine blk_drew ?_ | refine blk_alloc ?_ _)); exact BK104.out) k_ hn_)), Or.elim hk_ (fun hs_ => ((Kd.R_types (Kd.R_types (HO126.out) BK103.out (by decide)) BK104.out (by decide)).1 k_ hs_.symm).1.1.2) (fun hn_ => (Kd.freshB (g := gb113) (o := .cells #[.int .u64 ((rd_T36 x3_4 x54_3).f0), .string ((rd_T36 x3_4 x54_3).f1)] 36 (0, 0)) (by (with_reducible repeat (first | refine blk_drewN ?_ _ | refine blk_drew ?_ | refine blk_alloc ?_ _)); exact BK113.out) k_ hn_))⟩)) (below_size (by repeat (first | (with_reducible first | exact HB.out | apply below_alloc | apply pw_below_drewN | apply below_drew1 | refine below_set ?_ GE103.out | refine below_set ?_ GE104.out | refine below_set ?_ GE113.out) | exact HB.out)))); have n6_ := Aside0.mk (blk_below (g := gb103) (o := .cells #[.int .u64 a0_0, .int .u64 a0_1, .string a0_2, .slice A0_3 l0_3.length c0_3] 25 (0, 0)) (by (with_reducible repeat (first | refine blk_drewN ?_ _ | refine blk_drew ?_ | refine blk_alloc ?_ _)); exact BK103.out) hb); have n7_ := Aside0.mk (blk_below (g := gb104) (o := .cells #[.int .u64 x105000_3, .int .u64 x105001_3, .string x105002_3, .slice none 0 0] 25 (0, 0)) (by (with_reducible repeat (first | refine blk_drewN ?_ _ | refine blk_drew ?_ | refine blk_alloc ?_ _)); exact BK104.out) hb); have n8_ := Aside0.mk (blk_below (g := gb113) (o := .cells #[.int .u64 ((rd_T36 x3_4 x54_3).f0), .string ((rd_T36 x3_4 x54_3).f1)] 36 (0, 0)) (by (with_reducible repeat (first | refine blk_drewN ?_ _ | refine blk_drew ?_ | refine blk_alloc ?_ _)); exact BK113.out) hb); have n9_ := Aside0.mk (below_step (by repeat (first | (with_reducible first | exact HB.out | apply below_alloc | apply pw_below_drewN | apply below_drew1 | refine below_set ?_ GE103.out | refine below_set ?_ GE104.out | refine below_set ?_ GE113.out) | exact HB.out)) hb); clear HO_3; clear HO_52; clear HO_104003; clear HO123; clear HO126; clear BK103; clear BK104; clear BK113; clear HB; have HO_3 := n0_; have HO_52 := n1_; have HO_104003 := n2_; have HO123 := n3_; have HO126 := n4_; have HO132 := n5_; have BK103 := n6_; have BK104 := n7_; have BK113 := n8_; have HB := n9_; clear n0_ n1_ n2_ n3_ n4_ n5_ n6_ n7_ n8_ n9_; (try clear hb); (try clear hb2); (try clear hk); (try clear hi); (try clear ho0); have hnb85 := NB104_113.out; have hnc85 := NB113_104.out; have hcz86_0 : w84.cell? ⟨gb104, 0, none⟩ = some (.int .u64 x105000_3) := (blk_cell BK104.out 0).trans rfl; have hcz86_1 : w84.cell? ⟨gb104, 1, none⟩ = some (.int .u64 x105001_3) := (blk_cell BK104.out 1).trans rfl; have hcz86_2 : w84.cell? ⟨gb104, 2, none⟩ = some (.string x105002_3) := (blk_cell BK104.out 2).trans rfl; have hcz86_3 : w84.cell? ⟨gb104, 3, none⟩ = some (.slice none 0 0) := (blk_cell BK104.out 3).trans rfl; have hfz86_0 := blk_frozen BK104.out 0; have hfz86_1 := blk_frozen BK104.out 1; have hfz86_2 := blk_frozen BK104.out 2; have hfz86_3 := blk_frozen BK104.out 3; obtain ⟨Ao87, co87, eo87⟩ := Kd.V_slice HO132.out; subst eo87))
                                      refine bodyPost_ret (results_ctt rfl _ _ gb104 25 #[.int .u64 t127, .int .u64 t128, .string t129, .slice Ao87 t130.length co87] (0, 0) _ rfl (by (with_reducible repeat (first | refine blk_drewN ?_ _ | refine blk_drew ?_ | refine blk_alloc ?_ _)); refine blk_put (cs := #[.int .u64 t127, .int .u64 t128, .string t129, .slice none 0 0]) ?_ 3 _ rfl; (with_reducible repeat (first | refine blk_drewN ?_ _ | refine blk_drew ?_ | refine blk_alloc ?_ _)); refine blk_put (cs := #[.int .u64 t127, .int .u64 t128, .string x105002_3, .slice none 0 0]) ?_ 2 _ rfl; (with_reducible repeat (first | refine blk_drewN ?_ _ | refine blk_drew ?_ | refine blk_alloc ?_ _)); refine blk_put (cs := #[.int .u64 t127, .int .u64 x105001_3, .string x105002_3, .slice none 0 0]) ?_ 1 _ rfl; (with_reducible repeat (first | refine blk_drewN ?_ _ | refine blk_drew ?_ | refine blk_alloc ?_ _)); refine blk_put (cs := #[.int .u64 x105000_3, .int .u64 x105001_3, .string x105002_3, .slice none 0 0]) ?_ 0 _ rfl; (with_reducible repeat (first | refine blk_drewN ?_ _ | refine blk_drew ?_ | refine blk_alloc ?_ _)); exact BK104.out) Try.underlying25 rfl (by kernel_rfl)) rfl ?_
                                      exact ⟨_, by first | rfl | (simp [errW_none, errW_some] <;> rfl) | (simp [*, errW_none, errW_some] <;> rfl), by (with_reducible repeat (first | apply Kd.V_alloc | apply Kd.V_drewN | apply Kd.V_drew)); exact Kd.V_mono (Kd.V_far (p := ⟨gb104, 3, none⟩) (Kd.V_far (p := ⟨gb104, 2, none⟩) (Kd.V_far (p := ⟨gb104, 1, none⟩) (Kd.V_far (p := ⟨gb104, 0, none⟩) (Kd.V_mono HO132.out (fun k_ hk => (⟨hk, hk.2.2.1⟩ : _ ∧ k_ ≠ gb104))) (fun _ hk => hk.2) (.int .u64 t127)) (fun _ hk => hk.2) (.int .u64 t128)) (fun _ hk => hk.2) (.string t129)) (fun _ hk => hk.2) (.slice Ao87 t130.length co87)) (fun _ hk => hk.1.1), by repeat (first | (with_reducible first | exact HB.out | apply below_alloc | apply pw_below_drewN | apply below_drew1 | refine below_set ?_ GE103.out | refine below_set ?_ GE104.out | refine below_set ?_ GE113.out) | exact HB.out)⟩
                                · rw [if_neg c49] at H
                                  exact absurd H (by simp)
                              · rw [if_neg c48] at H
                                exact absurd H (by simp)
                            · rw [if_neg c47] at H
                              exact absurd H (by simp)
                    · rw [if_neg c31] at H
                      exact absurd H (by simp)
                  · rw [if_neg c30] at H
                    exact absurd H (by simp)
                · rw [if_neg c29] at H
                  have c29b0 : decide (x54_3 < (x3_4.length : Int)) = false := decide_eq_false c29
                  clear c29
                  simp only [Option.some.injEq, Prod.mk.injEq] at H
                  obtain ⟨rfl, rfl, rfl, rfl, rfl, rfl⟩ := H
                  have hnb88 := NB103_104.out
                  have hnc88 := NB104_103.out
                  have hcz89_0 : wr.cell? ⟨gb103, 0, none⟩ = some (.int .u64 a0_0) := (blk_cell BK103.out 0).trans rfl
                  have hcz89_1 : wr.cell? ⟨gb103, 1, none⟩ = some (.int .u64 a0_1) := (blk_cell BK103.out 1).trans rfl
                  have hcz89_2 : wr.cell? ⟨gb103, 2, none⟩ = some (.string a0_2) := (blk_cell BK103.out 2).trans rfl
                  have hcz89_3 : wr.cell? ⟨gb103, 3, none⟩ = some (.slice A0_3 l0_3.length c0_3) := (blk_cell BK103.out 3).trans rfl
                  have hfz89_0 := blk_frozen BK103.out 0
                  have hfz89_1 := blk_frozen BK103.out 1
                  have hfz89_2 := blk_frozen BK103.out 2
                  have hfz89_3 := blk_frozen BK103.out 3
                  have hcz90_0 : wr.cell? ⟨gb104, 0, none⟩ = some (.int .u64 x105000_3) := (blk_cell BK104.out 0).trans rfl
                  have hcz90_1 : wr.cell? ⟨gb104, 1, none⟩ = some (.int .u64 x105001_3) := (blk_cell BK104.out 1).trans rfl
                  have hcz90_2 : wr.cell? ⟨gb104, 2, none⟩ = some (.string x105002_3) := (blk_cell BK104.out 2).trans rfl
                  have hcz90_3 : wr.cell? ⟨gb104, 3, none⟩ = some (.slice none 0 0) := (blk_cell BK104.out 3).trans rfl
                  have hfz90_0 := blk_frozen BK104.out 0
                  have hfz90_1 := blk_frozen BK104.out 1
                  have hfz90_2 := blk_frozen BK104.out 2
                  have hfz90_3 := blk_frozen BK104.out 3
                  go_wp2
                  refine bodyPost_ret (results_ctt rfl _ _ gb104 25 #[.int .u64 a0_0, .int .u64 a0_1, .string a0_2, .slice A0_3 l0_3.length c0_3] (0, 0) _ rfl (by (with_reducible repeat (first | refine blk_drewN ?_ _ | refine blk_drew ?_ | refine blk_alloc ?_ _)); refine blk_put (cs := #[.int .u64 a0_0, .int .u64 a0_1, .string a0_2, .slice none 0 0]) ?_ 3 _ rfl; (with_reducible repeat (first | refine blk_drewN ?_ _ | refine blk_drew ?_ | refine blk_alloc ?_ _)); refine blk_put (cs := #[.int .u64 a0_0, .int .u64 a0_1, .string x105002_3, .slice none 0 0]) ?_ 2 _ rfl; (with_reducible repeat (first | refine blk_drewN ?_ _ | refine blk_drew ?_ | refine blk_alloc ?_ _)); refine blk_put (cs := #[.int .u64 a0_0, .int .u64 x105001_3, .string x105002_3, .slice none 0 0]) ?_ 1 _ rfl; (with_reducible repeat (first | refine blk_drewN ?_ _ | refine blk_drew ?_ | refine blk_alloc ?_ _)); refine blk_put (cs := #[.int .u64 x105000_3, .int .u64 x105001_3, .string x105002_3, .slice none 0 0]) ?_ 0 _ rfl; (with_reducible repeat (first | refine blk_drewN ?_ _ | refine blk_drew ?_ | refine blk_alloc ?_ _)); exact BK104.out) Try.underlying25 rfl (by kernel_rfl)) rfl ?_
                  exact ⟨_, by first | rfl | (simp [errW_none, errW_some] <;> rfl) | (simp [*, errW_none, errW_some] <;> rfl), by (with_reducible repeat (first | apply Kd.V_alloc | apply Kd.V_drewN | apply Kd.V_drew)); exact Kd.V_mono (Kd.V_far (p := ⟨gb104, 3, none⟩) (Kd.V_far (p := ⟨gb104, 2, none⟩) (Kd.V_far (p := ⟨gb104, 1, none⟩) (Kd.V_far (p := ⟨gb104, 0, none⟩) (Kd.V_mono HO_104003.out (fun k_ hk => (⟨hk, hk.2.2⟩ : _ ∧ k_ ≠ gb104))) (fun _ hk => hk.2) (.int .u64 a0_0)) (fun _ hk => hk.2) (.int .u64 a0_1)) (fun _ hk => hk.2) (.string a0_2)) (fun _ hk => hk.2) (.slice A0_3 l0_3.length c0_3)) (fun _ hk => hk.1.1), by repeat (first | (with_reducible first | exact HB.out | apply below_alloc | apply pw_below_drewN | apply below_drew1 | refine below_set ?_ GE103.out | refine below_set ?_ GE104.out) | exact HB.out)⟩

end Go.Proofs.Ytbejichfgednhaa.Pr
