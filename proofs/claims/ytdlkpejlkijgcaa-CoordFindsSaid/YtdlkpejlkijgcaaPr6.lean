/- What the program's functions compute, and that they compute it: printed out of the translation by a program of this session's (px.py, over the kit's printer). Conditions: none. -/
import Derived.Test.YtdlkpejlkijgcaaPr0
import Derived.Test.YtdlkpejlkijgcaaPr2
import Derived.Test.YtdlkpejlkijgcaaPr3
import Derived.Test.YtdlkpejlkijgcaaPr4
import Derived.Test.YtdlkpejlkijgcaaPr5
import Derived.Test.YtdlkpejlkijgcaaHandClone
import Derived.Test.YtdlkpejlkijgcaaHandFind
namespace Go.Proofs.Ytdlkpejlkijgcaa.Pr
open Go.RowKit Go.Proofs.YtdlkpejlkijgcaaW.PrintWords Go.Proofs.YtdlkpejlkijgcaaW.PrintLast Go.Proofs.YtdlkpejlkijgcaaW.PrintMore
attribute [local go_sem] max2_int min2_int max_two min_two max_three min_three max_four min_four   -- for this text's walks alone
set_option linter.unusedVariables false
set_option linter.unusedSimpArgs false

/-! ### coord_begins: function 17 -/
mutual
def coord_begins.j0 : Nat → Bool → Bool → List (S42) → Int → Int → Int → ByteArray → List (S86) → Bool → List Int → Int → Int → List Int → Int → Option ((List (S42)) × Int × ByteArray × Int × Bool × Bool)
  | 0, _, _, _, _, _, _, _, _, _, _, _, _, _, _ => none
  | k + 1, x7, x23, x130000, x131000, x131001, x131002, x131003, x131004, x131005, x131006, x150000, x150001, x150002, x150003 => if x23 = true then (some (x130000, 13, (⟨#[]⟩ : ByteArray), 0, false, (x150003 == 1))) else (if x7 = true then ((slices_Equal_uint64_uint64.f k x150002 x131006).bind fun t150 => (coord_begins.j1 k x7 t150 x130000 x131000 x131001 x131002 x131003 x131004 x131005 x131006)) else (coord_begins.j1 k x7 false x130000 x131000 x131001 x131002 x131003 x131004 x131005 x131006))
def coord_begins.j1 : Nat → Bool → Bool → List (S42) → Int → Int → Int → ByteArray → List (S86) → Bool → List Int → Option ((List (S42)) × Int × ByteArray × Int × Bool × Bool)
  | 0, _, _, _, _, _, _, _, _, _, _ => none
  | k + 1, x7, x35, x130000, x131000, x131001, x131002, x131003, x131004, x131005, x131006 => if x35 = true then ((coord_no.f x130000 0).bind fun bt151 => (some (bt151.1, bt151.2.1, bt151.2.2.1, bt151.2.2.2.1, bt151.2.2.2.2.1, bt151.2.2.2.2.2))) else (if x7 = true then ((coord_no.f x130000 8).bind fun bt159 => (some (bt159.1, bt159.2.1, bt159.2.2.1, bt159.2.2.2.1, bt159.2.2.2.2.1, bt159.2.2.2.2.2))) else ((cloneU.f x131006).bind fun t167 => ((coord_with.f x130000 x131001 x131002 t167 0).bind fun bt170 => (some (bt170.1, bt170.2.1, bt170.2.2.1, bt170.2.2.2.1, bt170.2.2.2.2.1, bt170.2.2.2.2.2)))))
end
def coord_begins.f (k : Nat) (l0_0 : List (S42)) (a1_0 : Int) (a1_1 : Int) (a1_2 : Int) (a1_3 : ByteArray) (l1_4 : List (S86)) (a1_5 : Bool) (l1_6 : List Int) : Option ((List (S42)) × Int × ByteArray × Int × Bool × Bool) := (coord_may.f k l1_6).bind fun t133 => (if t133 = true then ((coord_Find.f l0_0 a1_1 a1_2).bind fun bt142 => (if bt142.2.2.2.2 = true then (coord_begins.j0 k bt142.2.2.2.2 (bt142.2.2.2.1 != 0) l0_0 a1_0 a1_1 a1_2 a1_3 l1_4 a1_5 l1_6 bt142.1 bt142.2.1 bt142.2.2.1 bt142.2.2.2.1) else (coord_begins.j0 k bt142.2.2.2.2 false l0_0 a1_0 a1_1 a1_2 a1_3 l1_4 a1_5 l1_6 bt142.1 bt142.2.1 bt142.2.2.1 bt142.2.2.2.1))) else ((coord_no.f l0_0 1).bind fun bt134 => (some (bt134.1, bt134.2.1, bt134.2.2.1, bt134.2.2.2.1, bt134.2.2.2.2.1, bt134.2.2.2.2.2))))
theorem coord_begins.mono_l : ∀ k, (∀ y0 y1 y2 y3 y4 y5 y6 y7 y8 y9 y10 y11 y12 y13, LeO (coord_begins.j0 k y0 y1 y2 y3 y4 y5 y6 y7 y8 y9 y10 y11 y12 y13) (coord_begins.j0 (k + 1) y0 y1 y2 y3 y4 y5 y6 y7 y8 y9 y10 y11 y12 y13)) ∧ (∀ y0 y1 y2 y3 y4 y5 y6 y7 y8 y9, LeO (coord_begins.j1 k y0 y1 y2 y3 y4 y5 y6 y7 y8 y9) (coord_begins.j1 (k + 1) y0 y1 y2 y3 y4 y5 y6 y7 y8 y9))
  | 0 => ⟨fun _ _ _ _ _ _ _ _ _ _ _ _ _ _ r h => by simp [coord_begins.j0] at h, fun _ _ _ _ _ _ _ _ _ _ r h => by simp [coord_begins.j1] at h⟩
  | k + 1 => by
    obtain ⟨ih0, ih1⟩ := coord_begins.mono_l k
    refine ⟨?_, ?_⟩
    · intro y0 y1 y2 y3 y4 y5 y6 y7 y8 y9 y10 y11 y12 y13
      unfold coord_begins.j0
      repeat' first
      | (with_reducible exact ih0 _ _ _ _ _ _ _ _ _ _ _ _ _ _)
      | (with_reducible exact ih1 _ _ _ _ _ _ _ _ _ _)
      | (with_reducible exact coord_may.mono _ _)
      | (with_reducible exact slices_Equal_uint64_uint64.mono _ _ _)
      | (with_reducible exact LeO.refl _)
      | (with_reducible exact LeO.none _)
      | (with_reducible refine LeO.ite ?_ ?_)
      | (with_reducible refine LeO.bind ?_ (fun _ => ?_))
      | exact ih0 _ _ _ _ _ _ _ _ _ _ _ _ _ _
      | exact ih1 _ _ _ _ _ _ _ _ _ _
      | exact coord_may.mono _ _
      | exact slices_Equal_uint64_uint64.mono _ _ _
      | exact LeO.none _
      | refine LeO.ite ?_ ?_
      | refine LeO.bind ?_ (fun _ => ?_)
    · intro y0 y1 y2 y3 y4 y5 y6 y7 y8 y9
      unfold coord_begins.j1
      repeat' first
      | (with_reducible exact ih0 _ _ _ _ _ _ _ _ _ _ _ _ _ _)
      | (with_reducible exact ih1 _ _ _ _ _ _ _ _ _ _)
      | (with_reducible exact coord_may.mono _ _)
      | (with_reducible exact slices_Equal_uint64_uint64.mono _ _ _)
      | (with_reducible exact LeO.refl _)
      | (with_reducible exact LeO.none _)
      | (with_reducible refine LeO.ite ?_ ?_)
      | (with_reducible refine LeO.bind ?_ (fun _ => ?_))
      | exact ih0 _ _ _ _ _ _ _ _ _ _ _ _ _ _
      | exact ih1 _ _ _ _ _ _ _ _ _ _
      | exact coord_may.mono _ _
      | exact slices_Equal_uint64_uint64.mono _ _ _
      | exact LeO.none _
      | refine LeO.ite ?_ ?_
      | refine LeO.bind ?_ (fun _ => ?_)
theorem coord_begins.mono : ∀ a0 a1 a2 a3 a4 a5 a6 a7 k, LeO (coord_begins.f k a0 a1 a2 a3 a4 a5 a6 a7) (coord_begins.f (k + 1) a0 a1 a2 a3 a4 a5 a6 a7) := by
  intro a0 a1 a2 a3 a4 a5 a6 a7 k
  obtain ⟨ih0, ih1⟩ := coord_begins.mono_l k
  unfold coord_begins.f
  repeat' first
      | (with_reducible exact ih0 _ _ _ _ _ _ _ _ _ _ _ _ _ _)
      | (with_reducible exact ih1 _ _ _ _ _ _ _ _ _ _)
      | (with_reducible exact coord_may.mono _ _)
      | (with_reducible exact slices_Equal_uint64_uint64.mono _ _ _)
      | (with_reducible exact LeO.refl _)
      | (with_reducible exact LeO.none _)
      | (with_reducible refine LeO.ite ?_ ?_)
      | (with_reducible refine LeO.bind ?_ (fun _ => ?_))
      | exact ih0 _ _ _ _ _ _ _ _ _ _ _ _ _ _
      | exact ih1 _ _ _ _ _ _ _ _ _ _
      | exact coord_may.mono _ _
      | exact slices_Equal_uint64_uint64.mono _ _ _
      | exact LeO.none _
      | refine LeO.ite ?_ ?_
      | refine LeO.bind ?_ (fun _ => ?_)
def coord_begins.T10 : Bool × List (List Nat × List Nat) := (true, [([], []), ([], []), ([1], [1]), ([], []), ([3], [3]), ([4], [4]), ([2, 5], [2, 5]), ([0, 6, 5], [0, 6]), ([7], [7]), ([7], [7]), ([8, 7, 0, 1, 2, 3, 4, 5, 6, 7, 8, 9], [8]), ([9, 10, 0, 1, 2, 3, 4, 5, 6, 7, 8, 9, 10], [9])])
def coord_begins.B10 : List Nat := [0, 0, 2, 0, 8, 24, 62, 127, 255, 255, 1023, 2047]
theorem coord_begins.tab10 : rtab .any (opsOf Try.f17 10) = coord_begins.T10 := by kernel_rfl
theorem coord_begins.bits10 : waitsOk coord_begins.T10.2 coord_begins.B10 = true := by kernel_rfl
namespace Sh6
theorem am_ {p : Prop} (h : p) : Aside0 p := ⟨h⟩
theorem bx_ {Q P : Prop} (b : Aside0 Q) (h : Q → P := by intro hq_; (with_reducible repeat (first | refine blk_drewN ?_ _ | refine blk_drew ?_ | refine blk_alloc ?_ _)); exact hq_) : P := h b.out
theorem hx_ {Q P : Prop} (b : Aside0 Q) (h : Q → P := by intro hq_; repeat (first | (with_reducible first | exact hq_ | apply below_alloc | apply pw_below_drewN | apply below_drew1 | refine below_set ?_ (Aside0.out (by assumption))) | exact hq_)) : P := h b.out
theorem fz_ {Q G P : Prop} (q : Q) (g : Aside0 G) (h : Q → G → P := by intro q_ g_; first | exact Nat.ne_of_lt (Nat.lt_of_lt_of_le (by have := World.block_lt_of_cell? _ _ q_; first | rwa [add_block] at this | exact this) g_) | (rw [add_block]; exact Nat.ne_of_lt (Nat.lt_of_lt_of_le (by have := World.block_lt_of_cell? _ _ q_; first | rwa [add_block] at this | exact this) g_)) | (show (Addr.add _ _).block ≠ _; rw [add_block]; exact Nat.ne_of_lt (Nat.lt_of_lt_of_le (by have := World.block_lt_of_cell? _ _ q_; first | rwa [add_block] at this | exact this) g_)) | (dsimp only; exact Nat.ne_of_lt (Nat.lt_of_lt_of_le (by have := World.block_lt_of_cell? _ _ q_; first | rwa [add_block] at this | exact this) g_))) : P := h q g.out
theorem vx_ {Q P : Prop} (b : Aside0 Q) (h : Q → P := by intro hq_; (with_reducible repeat (first | apply Kd.V_alloc | apply Kd.V_drewN | apply Kd.V_drew)); exact hq_) : P := h b.out
theorem rx_ {Q P : Prop} (b : Aside0 Q) (h : Q → P := by intro hq_; (with_reducible repeat (first | apply Kd.R_alloc | apply Kd.R_drewN | apply Kd.R_drew)); exact hq_) : P := h b.out
theorem nx_ {Q P : Prop} (b : Aside0 Q) (h : Q → P := by intro hq_; (with_reducible repeat (first | apply Kd.N_alloc | apply Kd.N_drewN | apply Kd.N_drew)); exact hq_) : P := h b.out
abbrev bN0_ : Array Bool := #[false, false, false, false, false, false, false]
abbrev bN1_ : Array Bool := #[false, true, false, false, false, false, false]
abbrev bN2_ : Array Bool := #[true, true, false, false, false, false, false]
abbrev bN3_ : Array Bool := #[true, true, true, false, false, false, false]
abbrev bN4_ : Array Bool := #[true, true, true, true, false, false, false]
abbrev bN5_ : Array Bool := #[true, true, true, true, true, false, false]
abbrev bN6_ : Array Bool := #[true, true, true, true, true, true, false]
abbrev bN7_ : Array Bool := #[true, true, true, true, true, true, true]
abbrev bN8_ : Array Bool := #[false, false, false, false, false, false, false, false, false, false, false, false]
abbrev bN9_ : Array Bool := #[false, true, false, false, false, false, false, false, false, false, false, false]
abbrev bN10_ : Array Bool := #[false, true, false, true, false, false, false, false, false, false, false, false]
abbrev bN11_ : Array Bool := #[true, true, false, true, false, false, false, false, false, false, false, false]
abbrev bN12_ : Array Bool := #[true, true, true, true, false, false, false, false, false, false, false, false]
abbrev bN13_ : Array Bool := #[true, true, true, true, true, false, false, false, false, false, false, false]
abbrev bN14_ : Array Bool := #[true, true, true, true, true, true, false, false, false, false, false, false]
abbrev bN15_ : Array Bool := #[true, true, true, true, true, true, true, false, false, false, false, false]
abbrev bN16_ : Array Bool := #[true, true, true, true, true, true, true, true, false, false, false, false]
abbrev bN17_ : Array Bool := #[true, true, true, true, true, true, true, true, true, false, false, false]
abbrev bN18_ : Array Bool := #[true, true, true, true, true, true, true, true, true, true, false, false]
abbrev bN19_ : Array Bool := #[true, true, true, true, true, true, true, true, true, true, true, false]
abbrev bN20_ : Array Bool := #[true, true, true, true, true, true, true, true, true, true, true, true]
end Sh6
open Sh6
set_option maxHeartbeats 8000000 in
set_option maxRecDepth 100000 in
theorem coord_begins.calls (k : Nat) (P0_0_ : Nat → Prop) (A0_0 : Option Addr) (c0_0 : Nat) (l0_0 : List (S42)) (a1_0 : Int) (a1_1 : Int) (a1_2 : Int) (a1_3 : ByteArray) (A1_4 : Option Addr) (c1_4 : Nat) (l1_4 : List (S86)) (a1_5 : Bool) (A1_6 : Option Addr) (c1_6 : Nat) (l1_6 : List Int) (r1 : List (S42)) (r2 : Int) (r3 : ByteArray) (r4 : Int) (r5 : Bool) (r6 : Bool) (w : World) (hs0_0 : Kd.V k42 42 w w.heap.size (fun k_ => P0_0_ k_) (.slice A0_0 l0_0.length c0_0) l0_0) (hr1_4 : Kd.C k86 w A1_4 l1_4.length l1_4) (hc1_4 : l1_4.length ≤ c1_4) (hr1_6 : Kd.C (Kd.int .u64) w A1_6 l1_6.length l1_6) (hc1_6 : l1_6.length ≤ c1_6) (h : coord_begins.f k l0_0 a1_0 a1_1 a1_2 a1_3 l1_4 a1_5 l1_6 = some (r1, r2, r3, r4, r5, r6)) :
  Calls Try.prog 17 #[.agg #[.slice A0_0 l0_0.length c0_0], .agg #[.int .i64 a1_0, .int .u64 a1_1, .int .u64 a1_2, .string a1_3, .slice A1_4 l1_4.length c1_4, .bool a1_5, .slice A1_6 l1_6.length c1_6]] w fun e w' => ∃ v0_ : Value, e = .returned (.tuple #[.agg #[v0_], .agg #[.int .i64 r2, .string r3, .int .u64 r4, .bool r5, .bool r6]]) ∧ Kd.V k42 42 w' w.heap.size (fun k_ => (P0_0_ k_ ∨ w.heap.size ≤ k_)) v0_ r1 ∧ Below w.heap.size w w' := by
 have hu26 := Try.underlying26
 have hu38 := Try.underlying38
 have hu30 := Try.underlying30
 have hu34 := Try.underlying34
 have hu42 := Try.underlying42
 have HO0_0 := am_ (show Kd.V k42 42 w w.heap.size (fun k_ => (P0_0_ k_ ∨ w.heap.size ≤ k_)) (.slice A0_0 l0_0.length c0_0) l0_0 from Kd.V_mono hs0_0 (fun k_ hk => .inl hk))
 have HR1_4 := am_ hr1_4
 have HC1_4 := am_ hc1_4
 clear hr1_4 hc1_4
 have HR1_6 := am_ hr1_6
 have HC1_6 := am_ hc1_6
 clear hr1_6 hc1_6
 have HB := am_ (Below.refl w.heap.size w)
 have H : ((coord_may.f k l1_6).bind fun t133 => (if t133 = true then ((coord_Find.f l0_0 a1_1 a1_2).bind fun bt142 => (if bt142.2.2.2.2 = true then (coord_begins.j0 k bt142.2.2.2.2 (bt142.2.2.2.1 != 0) l0_0 a1_0 a1_1 a1_2 a1_3 l1_4 a1_5 l1_6 bt142.1 bt142.2.1 bt142.2.2.1 bt142.2.2.2.1) else (coord_begins.j0 k bt142.2.2.2.2 false l0_0 a1_0 a1_1 a1_2 a1_3 l1_4 a1_5 l1_6 bt142.1 bt142.2.1 bt142.2.2.1 bt142.2.2.2.1))) else ((coord_no.f l0_0 1).bind fun bt134 => (some (bt134.1, bt134.2.1, bt134.2.2.1, bt134.2.2.2.1, bt134.2.2.2.2.1, bt134.2.2.2.2.2))))) = some (r1, r2, r3, r4, r5, r6) := h
 clear h
 replace H := Option.bind_eq_some_iff.mp H
 obtain ⟨t133, A30, H⟩ := H
 replace H : (if t133 = true then ((coord_Find.f l0_0 a1_1 a1_2).bind fun bt142 => (if bt142.2.2.2.2 = true then (coord_begins.j0 k bt142.2.2.2.2 (bt142.2.2.2.1 != 0) l0_0 a1_0 a1_1 a1_2 a1_3 l1_4 a1_5 l1_6 bt142.1 bt142.2.1 bt142.2.2.1 bt142.2.2.2.1) else (coord_begins.j0 k bt142.2.2.2.2 false l0_0 a1_0 a1_1 a1_2 a1_3 l1_4 a1_5 l1_6 bt142.1 bt142.2.1 bt142.2.2.1 bt142.2.2.2.1))) else ((coord_no.f l0_0 1).bind fun bt134 => (some (bt134.1, bt134.2.1, bt134.2.2.1, bt134.2.2.2.1, bt134.2.2.2.2.1, bt134.2.2.2.2.2)))) = some (r1, r2, r3, r4, r5, r6) := H
 have A3 := am_ A30
 clear A30
 by_cases c4 : t133 = true
 ·subst c4
  have H1 : ((coord_Find.f l0_0 a1_1 a1_2).bind fun bt142 => (if bt142.2.2.2.2 = true then (coord_begins.j0 k bt142.2.2.2.2 (bt142.2.2.2.1 != 0) l0_0 a1_0 a1_1 a1_2 a1_3 l1_4 a1_5 l1_6 bt142.1 bt142.2.1 bt142.2.2.1 bt142.2.2.2.1) else (coord_begins.j0 k bt142.2.2.2.2 false l0_0 a1_0 a1_1 a1_2 a1_3 l1_4 a1_5 l1_6 bt142.1 bt142.2.1 bt142.2.2.1 bt142.2.2.2.1))) = some (r1, r2, r3, r4, r5, r6) := by rw [if_pos rfl] at H; exact H
  clear H
  have H := H1
  clear H1
  replace H := Option.bind_eq_some_iff.mp H
  obtain ⟨⟨t142, t143, t144, t147, t148⟩, A50, H⟩ := H
  replace H : (if t148 = true then (coord_begins.j0 k t148 (t147 != 0) l0_0 a1_0 a1_1 a1_2 a1_3 l1_4 a1_5 l1_6 t142 t143 t144 t147) else (coord_begins.j0 k t148 false l0_0 a1_0 a1_1 a1_2 a1_3 l1_4 a1_5 l1_6 t142 t143 t144 t147)) = some (r1, r2, r3, r4, r5, r6) := H
  have A5 := am_ A50
  clear A50
  have HC6 := am_ H
  clear H
  go_enter Try.func17, Try.ntmps17
  go_upto_region 4 with (first | ((with_reducible refine gate_dst (N := 2) rfl ?_); refine box_event ?hg (N := 2) ?hd (cs := #[.slice A0_0 l0_0.length c0_0]) (t := 26) ?hr ?_; (case hd => rfl); (case hg => rfl); (case hr => first | (go_simp; done) | (go_simp; rfl)); intro gb129 hg w7 hbox hb; have n0_ := am_ (Kd.V_below (Kd.V_elderB (vx_ HO0_0) gb129 (Nat.le_of_eq hg.symm)) hb); have n1_ := am_ (below_step (hx_ HB) hb); have n2_ := am_ (hbox); have n3_ := am_ ((by rw [hg]; exact (below_size (hx_ HB)) : w.heap.size ≤ gb129)); have n4_ := am_ ((by rw [hg]; exact (below_size (hx_ HB)) : w.heap.size ≤ gb129)); clear HO0_0; clear HB; have HO0_0 := n0_; have HB := n1_; have BK129 := n2_; have GW129 := n3_; have GE129 := n4_; clear n0_ n1_ n2_ n3_ n4_; clear hb hbox hg) | ((with_reducible refine gate_dst (N := 3) rfl ?_); refine box_event ?hg (N := 3) ?hd (cs := #[.int .i64 a1_0, .int .u64 a1_1, .int .u64 a1_2, .string a1_3, .slice A1_4 l1_4.length c1_4, .bool a1_5, .slice A1_6 l1_6.length c1_6]) (t := 38) ?hr ?_; (case hd => rfl); (case hg => rfl); (case hr => first | (go_simp; done) | (go_simp; rfl)); intro gb130 hg w8 hbox hb; have n0_ := am_ (Kd.V_below (Kd.V_elderB (vx_ HO0_0) gb130 (Nat.le_of_eq hg.symm)) hb); have n1_ := am_ (blk_below (g := gb129) (o := .cells #[.slice A0_0 l0_0.length c0_0] 26 (0, 0)) (bx_ BK129) hb); have n2_ := am_ (below_step (hx_ HB) hb); have n3_ := am_ (hbox); have n4_ := am_ ((by rw [hg]; exact (below_size (hx_ HB)) : w.heap.size ≤ gb130)); have n5_ := am_ ((by rw [hg]; exact (below_size (hx_ HB)) : w.heap.size ≤ gb130)); have n6_ := am_ ((by rw [hg]; exact Nat.ne_of_lt (blk_lt (g := gb129) (o := .cells #[.slice A0_0 l0_0.length c0_0] 26 (0, 0)) (bx_ BK129)) : gb129 ≠ gb130)); have n7_ := am_ ((by rw [hg]; exact Nat.ne_of_gt (blk_lt (g := gb129) (o := .cells #[.slice A0_0 l0_0.length c0_0] 26 (0, 0)) (bx_ BK129)) : gb130 ≠ gb129)); clear HO0_0; clear BK129; clear HB; have HO0_0 := n0_; have BK129 := n1_; have HB := n2_; have BK130 := n3_; have GW130 := n4_; have GE130 := n5_; have NB129_130 := n6_; have NB130_129 := n7_; clear n0_ n1_ n2_ n3_ n4_ n5_ n6_ n7_; clear hb hbox hg) | ((with_reducible refine gate_dst (N := 4) rfl ?_); refine box_event ?hg (N := 4) ?hd (cs := #[.slice none 0 0]) (t := 26) ?hr ?_; (case hd => rfl); (case hg => rfl); (case hr => first | (go_simp; done) | (go_simp; rfl)); intro gb131 hg w9 hbox hb; have n0_ := am_ (Kd.V_below (Kd.V_elderB (vx_ HO0_0) gb131 (Nat.le_of_eq hg.symm)) hb); have n1_ := am_ (blk_below (g := gb129) (o := .cells #[.slice A0_0 l0_0.length c0_0] 26 (0, 0)) (bx_ BK129) hb); have n2_ := am_ (blk_below (g := gb130) (o := .cells #[.int .i64 a1_0, .int .u64 a1_1, .int .u64 a1_2, .string a1_3, .slice A1_4 l1_4.length c1_4, .bool a1_5, .slice A1_6 l1_6.length c1_6] 38 (0, 0)) (bx_ BK130) hb); have n3_ := am_ (below_step (hx_ HB) hb); have n4_ := am_ (hbox); have n5_ := am_ ((by rw [hg]; exact (below_size (hx_ HB)) : w.heap.size ≤ gb131)); have n6_ := am_ ((by rw [hg]; exact (below_size (hx_ HB)) : w.heap.size ≤ gb131)); have n7_ := am_ ((by rw [hg]; exact Nat.ne_of_lt (blk_lt (g := gb129) (o := .cells #[.slice A0_0 l0_0.length c0_0] 26 (0, 0)) (bx_ BK129)) : gb129 ≠ gb131)); have n8_ := am_ ((by rw [hg]; exact Nat.ne_of_gt (blk_lt (g := gb129) (o := .cells #[.slice A0_0 l0_0.length c0_0] 26 (0, 0)) (bx_ BK129)) : gb131 ≠ gb129)); have n9_ := am_ ((by rw [hg]; exact Nat.ne_of_lt (blk_lt (g := gb130) (o := .cells #[.int .i64 a1_0, .int .u64 a1_1, .int .u64 a1_2, .string a1_3, .slice A1_4 l1_4.length c1_4, .bool a1_5, .slice A1_6 l1_6.length c1_6] 38 (0, 0)) (bx_ BK130)) : gb130 ≠ gb131)); have n10_ := am_ ((by rw [hg]; exact Nat.ne_of_gt (blk_lt (g := gb130) (o := .cells #[.int .i64 a1_0, .int .u64 a1_1, .int .u64 a1_2, .string a1_3, .slice A1_4 l1_4.length c1_4, .bool a1_5, .slice A1_6 l1_6.length c1_6] 38 (0, 0)) (bx_ BK130)) : gb131 ≠ gb130)); clear HO0_0; clear BK129; clear BK130; clear HB; have HO0_0 := n0_; have BK129 := n1_; have BK130 := n2_; have HB := n3_; have BK131 := n4_; have GW131 := n5_; have GE131 := n6_; have NB129_131 := n7_; have NB131_129 := n8_; have NB130_131 := n9_; have NB131_130 := n10_; clear n0_ n1_ n2_ n3_ n4_ n5_ n6_ n7_ n8_ n9_ n10_; clear hb hbox hg) | ((with_reducible refine gate_dst (N := 5) rfl ?_); refine box_event ?hg (N := 5) ?hd (cs := #[.int .i64 0, .string (⟨#[]⟩ : ByteArray), .int .u64 0, .bool false, .bool false]) (t := 30) ?hr ?_; (case hd => rfl); (case hg => rfl); (case hr => first | (go_simp; done) | (go_simp; rfl)); intro gb132 hg w10 hbox hb; have n0_ := am_ (Kd.V_below (Kd.V_elderB (vx_ HO0_0) gb132 (Nat.le_of_eq hg.symm)) hb); have n1_ := am_ (blk_below (g := gb129) (o := .cells #[.slice A0_0 l0_0.length c0_0] 26 (0, 0)) (bx_ BK129) hb); have n2_ := am_ (blk_below (g := gb130) (o := .cells #[.int .i64 a1_0, .int .u64 a1_1, .int .u64 a1_2, .string a1_3, .slice A1_4 l1_4.length c1_4, .bool a1_5, .slice A1_6 l1_6.length c1_6] 38 (0, 0)) (bx_ BK130) hb); have n3_ := am_ (blk_below (g := gb131) (o := .cells #[.slice none 0 0] 26 (0, 0)) (bx_ BK131) hb); have n4_ := am_ (below_step (hx_ HB) hb); have n5_ := am_ (hbox); have n6_ := am_ ((by rw [hg]; exact (below_size (hx_ HB)) : w.heap.size ≤ gb132)); have n7_ := am_ ((by rw [hg]; exact (below_size (hx_ HB)) : w.heap.size ≤ gb132)); have n8_ := am_ ((by rw [hg]; exact Nat.ne_of_lt (blk_lt (g := gb129) (o := .cells #[.slice A0_0 l0_0.length c0_0] 26 (0, 0)) (bx_ BK129)) : gb129 ≠ gb132)); have n9_ := am_ ((by rw [hg]; exact Nat.ne_of_gt (blk_lt (g := gb129) (o := .cells #[.slice A0_0 l0_0.length c0_0] 26 (0, 0)) (bx_ BK129)) : gb132 ≠ gb129)); have n10_ := am_ ((by rw [hg]; exact Nat.ne_of_lt (blk_lt (g := gb130) (o := .cells #[.int .i64 a1_0, .int .u64 a1_1, .int .u64 a1_2, .string a1_3, .slice A1_4 l1_4.length c1_4, .bool a1_5, .slice A1_6 l1_6.length c1_6] 38 (0, 0)) (bx_ BK130)) : gb130 ≠ gb132)); have n11_ := am_ ((by rw [hg]; exact Nat.ne_of_gt (blk_lt (g := gb130) (o := .cells #[.int .i64 a1_0, .int .u64 a1_1, .int .u64 a1_2, .string a1_3, .slice A1_4 l1_4.length c1_4, .bool a1_5, .slice A1_6 l1_6.length c1_6] 38 (0, 0)) (bx_ BK130)) : gb132 ≠ gb130)); have n12_ := am_ ((by rw [hg]; exact Nat.ne_of_lt (blk_lt (g := gb131) (o := .cells #[.slice none 0 0] 26 (0, 0)) (bx_ BK131)) : gb131 ≠ gb132)); have n13_ := am_ ((by rw [hg]; exact Nat.ne_of_gt (blk_lt (g := gb131) (o := .cells #[.slice none 0 0] 26 (0, 0)) (bx_ BK131)) : gb132 ≠ gb131)); clear HO0_0; clear BK129; clear BK130; clear BK131; clear HB; have HO0_0 := n0_; have BK129 := n1_; have BK130 := n2_; have BK131 := n3_; have HB := n4_; have BK132 := n5_; have GW132 := n6_; have GE132 := n7_; have NB129_132 := n8_; have NB132_129 := n9_; have NB130_132 := n10_; have NB132_130 := n11_; have NB131_132 := n12_; have NB132_131 := n13_; clear n0_ n1_ n2_ n3_ n4_ n5_ n6_ n7_ n8_ n9_ n10_ n11_ n12_ n13_; clear hb hbox hg; have hnb11 := NB130_129.out; have hnc11 := NB129_130.out; have hnb12 := NB130_131.out; have hnc12 := NB131_130.out; have hnb13 := NB130_132.out; have hnc13 := NB132_130.out; have hcz14_0 : w10.cell? ⟨gb130, 0, none⟩ = some (.int .i64 a1_0) := (blk_cell BK130.out 0).trans rfl; have hcz14_1 : w10.cell? ⟨gb130, 1, none⟩ = some (.int .u64 a1_1) := (blk_cell BK130.out 1).trans rfl; have hcz14_2 : w10.cell? ⟨gb130, 2, none⟩ = some (.int .u64 a1_2) := (blk_cell BK130.out 2).trans rfl; have hcz14_3 : w10.cell? ⟨gb130, 3, none⟩ = some (.string a1_3) := (blk_cell BK130.out 3).trans rfl; have hcz14_4 : w10.cell? ⟨gb130, 4, none⟩ = some (.slice A1_4 l1_4.length c1_4) := (blk_cell BK130.out 4).trans rfl; have hcz14_5 : w10.cell? ⟨gb130, 5, none⟩ = some (.bool a1_5) := (blk_cell BK130.out 5).trans rfl; have hcz14_6 : w10.cell? ⟨gb130, 6, none⟩ = some (.slice A1_6 l1_6.length c1_6) := (blk_cell BK130.out 6).trans rfl; have hfz14_0 := blk_frozen BK130.out 0; have hfz14_1 := blk_frozen BK130.out 1; have hfz14_2 := blk_frozen BK130.out 2; have hfz14_3 := blk_frozen BK130.out 3; have hfz14_4 := blk_frozen BK130.out 4; have hfz14_5 := blk_frozen BK130.out 5; have hfz14_6 := blk_frozen BK130.out 6) | ((with_reducible refine gate_callee (f := 26) rfl ?_); refine goesL_ (some 10) rfl rfl Try.func26 (by kernel_rfl) rfl #[.slice A1_6 l1_6.length c1_6] rfl (by (try simp only [List.map_toArray, List.map_cons, List.map_nil]); first | done | rfl | (simp only [List.length_drop, List.length_take]; rfl)) ?_; (with_reducible refine (coord_may.calls k _ _ l1_6 true _ ?side1 ?side2 A3.out).mono ?_); (case side1 => repeat (first | exact (Kd.C_below HR1_6.out HB.out) | (with_reducible refine Kd.C_alloc ?_ _) | (with_reducible refine Kd.C_drewN ?_ _) | (with_reducible refine Kd.C_drew ?_))); (case side2 => exact HC1_6.out); rintro e w' ⟨rfl, ⟨nd, rfl⟩⟩; refine ⟨_, rfl, ?_⟩; (try (rw [drewN_self w10]; generalize hq_ : World.drewN w10 _ = w10; have n0_ : Aside0 (Kd.V k42 42 w10 w.heap.size (fun k_ => ((((P0_0_ k_ ∨ w.heap.size ≤ k_) ∧ k_ ≠ gb129) ∧ k_ ≠ gb130) ∧ k_ ≠ gb131) ∧ k_ ≠ gb132) (.slice A0_0 l0_0.length c0_0) l0_0) := ⟨by rw [← hq_]; exact (vx_ HO0_0)⟩; have n1_ : Aside0 (w10.heap[gb129]? = some (.cells #[.slice A0_0 l0_0.length c0_0] 26 (0, 0))) := ⟨by rw [← hq_]; exact (bx_ BK129)⟩; have n2_ : Aside0 (w10.heap[gb130]? = some (.cells #[.int .i64 a1_0, .int .u64 a1_1, .int .u64 a1_2, .string a1_3, .slice A1_4 l1_4.length c1_4, .bool a1_5, .slice A1_6 l1_6.length c1_6] 38 (0, 0))) := ⟨by rw [← hq_]; exact (bx_ BK130)⟩; have n3_ : Aside0 (w10.heap[gb131]? = some (.cells #[.slice none 0 0] 26 (0, 0))) := ⟨by rw [← hq_]; exact (bx_ BK131)⟩; have n4_ : Aside0 (w10.heap[gb132]? = some (.cells #[.int .i64 0, .string (⟨#[]⟩ : ByteArray), .int .u64 0, .bool false, .bool false] 30 (0, 0))) := ⟨by rw [← hq_]; exact (bx_ BK132)⟩; have n5_ : Aside0 (Below w.heap.size w w10) := ⟨by rw [← hq_]; exact (hx_ HB)⟩; clear HO0_0 BK129 BK130 BK131 BK132 HB hq_; have HO0_0 := n0_; have BK129 := n1_; have BK130 := n2_; have BK131 := n3_; have BK132 := n4_; have HB := n5_; clear n0_ n1_ n2_ n3_ n4_ n5_)); have hnb15 := NB129_131.out; have hnc15 := NB131_129.out; have hnb16 := NB129_132.out; have hnc16 := NB132_129.out; have hcz17_0 : w10.cell? ⟨gb129, 0, none⟩ = some (.slice A0_0 l0_0.length c0_0) := (blk_cell BK129.out 0).trans rfl; have hfz17_0 := blk_frozen BK129.out 0; have hcq1 : w10.cell? ⟨gb130, 1, none⟩ = some (.int .u64 a1_1) := (blk_cell BK130.out 1).trans rfl; have hcq2 : w10.cell? ⟨gb130, 2, none⟩ = some (.int .u64 a1_2) := (blk_cell BK130.out 2).trans rfl) | ((with_reducible refine gate_callee (f := 14) rfl ?_); refine goesL_ (some 20) rfl rfl Try.func14 (by kernel_rfl) rfl #[.agg #[.slice A0_0 l0_0.length c0_0], .agg #[.int .u64 a1_1, .int .u64 a1_2]] rfl (by (try simp only [List.map_toArray, List.map_cons, List.map_nil]); first | done | rfl | (simp only [List.length_drop, List.length_take]; rfl)) ?_; (with_reducible refine (coord_Find.calls _ _ l0_0 a1_1 a1_2 t142 t143 t144 t147 t148 _ ?side1 ?side2 A5.out).mono ?_); (case side1 => repeat (first | exact (Kd.V_reads' HO0_0.out).2.2 | (with_reducible refine Kd.C_alloc ?_ _) | (with_reducible refine Kd.C_drewN ?_ _) | (with_reducible refine Kd.C_drew ?_))); (case side2 => exact (Kd.V_reads' HO0_0.out).2.1); rintro e w18 ⟨v145, rfl, ho0, hb⟩; refine ⟨_, rfl, ?_⟩; have n0_ := am_ (Kd.V_elder' (vx_ HO0_0) (Kd.R_base ho0) hb); have n1_ := am_ (Kd.R_lower (Kd.R_newM (M := fun k_ => (w.heap.size ≤ k_)) ho0 (below_size (hx_ HB)) (fun k_ h_ => h_)) (below_size (hx_ HB))); have n2_ := am_ (blk_below (g := gb129) (o := .cells #[.slice A0_0 l0_0.length c0_0] 26 (0, 0)) (bx_ BK129) hb); have n3_ := am_ (blk_below (g := gb130) (o := .cells #[.int .i64 a1_0, .int .u64 a1_1, .int .u64 a1_2, .string a1_3, .slice A1_4 l1_4.length c1_4, .bool a1_5, .slice A1_6 l1_6.length c1_6] 38 (0, 0)) (bx_ BK130) hb); have n4_ := am_ (blk_below (g := gb131) (o := .cells #[.slice none 0 0] 26 (0, 0)) (bx_ BK131) hb); have n5_ := am_ (blk_below (g := gb132) (o := .cells #[.int .i64 0, .string (⟨#[]⟩ : ByteArray), .int .u64 0, .bool false, .bool false] 30 (0, 0)) (bx_ BK132) hb); have n6_ := am_ (below_step (hx_ HB) hb); clear HO0_0; clear BK129; clear BK130; clear BK131; clear BK132; clear HB; have HO0_0 := n0_; have HO146 := n1_; have BK129 := n2_; have BK130 := n3_; have BK131 := n4_; have BK132 := n5_; have HB := n6_; clear n0_ n1_ n2_ n3_ n4_ n5_ n6_; (try clear hb); (try clear hb2); (try clear hk); (try clear hi); (try clear ho0)) | ((with_reducible refine gate_dst (N := 6) rfl ?_); refine box_event ?hg (N := 6) ?hd (cs := #[.int .u64 0, .int .u64 0, .slice none 0 0, .int .i64 0]) (t := 42) ?hr ?_; (case hd => rfl); (case hg => rfl); (case hr => first | (go_simp; done) | (go_simp; rfl)); intro gb149 hg w19 hbox hb; have n0_ := am_ (Kd.V_below (Kd.V_elderB (vx_ HO0_0) gb149 (Nat.le_of_eq hg.symm)) hb); have n1_ := am_ (Kd.R_below (rx_ HO146) hb); have n2_ := am_ (blk_below (g := gb129) (o := .cells #[.slice A0_0 l0_0.length c0_0] 26 (0, 0)) (bx_ BK129) hb); have n3_ := am_ (blk_below (g := gb130) (o := .cells #[.int .i64 a1_0, .int .u64 a1_1, .int .u64 a1_2, .string a1_3, .slice A1_4 l1_4.length c1_4, .bool a1_5, .slice A1_6 l1_6.length c1_6] 38 (0, 0)) (bx_ BK130) hb); have n4_ := am_ (blk_below (g := gb131) (o := .cells #[.slice none 0 0] 26 (0, 0)) (bx_ BK131) hb); have n5_ := am_ (blk_below (g := gb132) (o := .cells #[.int .i64 0, .string (⟨#[]⟩ : ByteArray), .int .u64 0, .bool false, .bool false] 30 (0, 0)) (bx_ BK132) hb); have n6_ := am_ (below_step (hx_ HB) hb); have n7_ := am_ (hbox); have n8_ := am_ ((by rw [hg]; exact (below_size (hx_ HB)) : w.heap.size ≤ gb149)); have n9_ := am_ ((by rw [hg]; exact (below_size (hx_ HB)) : w.heap.size ≤ gb149)); have n10_ := am_ ((by rw [hg]; exact Nat.ne_of_lt (blk_lt (g := gb129) (o := .cells #[.slice A0_0 l0_0.length c0_0] 26 (0, 0)) (bx_ BK129)) : gb129 ≠ gb149)); have n11_ := am_ ((by rw [hg]; exact Nat.ne_of_gt (blk_lt (g := gb129) (o := .cells #[.slice A0_0 l0_0.length c0_0] 26 (0, 0)) (bx_ BK129)) : gb149 ≠ gb129)); have n12_ := am_ ((by rw [hg]; exact Nat.ne_of_lt (blk_lt (g := gb130) (o := .cells #[.int .i64 a1_0, .int .u64 a1_1, .int .u64 a1_2, .string a1_3, .slice A1_4 l1_4.length c1_4, .bool a1_5, .slice A1_6 l1_6.length c1_6] 38 (0, 0)) (bx_ BK130)) : gb130 ≠ gb149)); have n13_ := am_ ((by rw [hg]; exact Nat.ne_of_gt (blk_lt (g := gb130) (o := .cells #[.int .i64 a1_0, .int .u64 a1_1, .int .u64 a1_2, .string a1_3, .slice A1_4 l1_4.length c1_4, .bool a1_5, .slice A1_6 l1_6.length c1_6] 38 (0, 0)) (bx_ BK130)) : gb149 ≠ gb130)); have n14_ := am_ ((by rw [hg]; exact Nat.ne_of_lt (blk_lt (g := gb131) (o := .cells #[.slice none 0 0] 26 (0, 0)) (bx_ BK131)) : gb131 ≠ gb149)); have n15_ := am_ ((by rw [hg]; exact Nat.ne_of_gt (blk_lt (g := gb131) (o := .cells #[.slice none 0 0] 26 (0, 0)) (bx_ BK131)) : gb149 ≠ gb131)); have n16_ := am_ ((by rw [hg]; exact Nat.ne_of_lt (blk_lt (g := gb132) (o := .cells #[.int .i64 0, .string (⟨#[]⟩ : ByteArray), .int .u64 0, .bool false, .bool false] 30 (0, 0)) (bx_ BK132)) : gb132 ≠ gb149)); have n17_ := am_ ((by rw [hg]; exact Nat.ne_of_gt (blk_lt (g := gb132) (o := .cells #[.int .i64 0, .string (⟨#[]⟩ : ByteArray), .int .u64 0, .bool false, .bool false] 30 (0, 0)) (bx_ BK132)) : gb149 ≠ gb132)); clear HO0_0; clear HO146; clear BK129; clear BK130; clear BK131; clear BK132; clear HB; have HO0_0 := n0_; have HO146 := n1_; have BK129 := n2_; have BK130 := n3_; have BK131 := n4_; have BK132 := n5_; have HB := n6_; have BK149 := n7_; have GW149 := n8_; have GE149 := n9_; have NB129_149 := n10_; have NB149_129 := n11_; have NB130_149 := n12_; have NB149_130 := n13_; have NB131_149 := n14_; have NB149_131 := n15_; have NB132_149 := n16_; have NB149_132 := n17_; clear n0_ n1_ n2_ n3_ n4_ n5_ n6_ n7_ n8_ n9_ n10_ n11_ n12_ n13_ n14_ n15_ n16_ n17_; clear hb hbox hg; have hnb20 := NB149_129.out; have hnc20 := NB129_149.out; have hnb21 := NB149_130.out; have hnc21 := NB130_149.out; have hnb22 := NB149_131.out; have hnc22 := NB131_149.out; have hnb23 := NB149_132.out; have hnc23 := NB132_149.out; have hcz24_0 : w19.cell? ⟨gb149, 0, none⟩ = some (.int .u64 0) := (blk_cell BK149.out 0).trans rfl; have hcz24_1 : w19.cell? ⟨gb149, 1, none⟩ = some (.int .u64 0) := (blk_cell BK149.out 1).trans rfl; have hcz24_2 : w19.cell? ⟨gb149, 2, none⟩ = some (.slice none 0 0) := (blk_cell BK149.out 2).trans rfl; have hcz24_3 : w19.cell? ⟨gb149, 3, none⟩ = some (.int .i64 0) := (blk_cell BK149.out 3).trans rfl; have hfz24_0 := blk_frozen BK149.out 0; have hfz24_1 := blk_frozen BK149.out 1; have hfz24_2 := blk_frozen BK149.out 2; have hfz24_3 := blk_frozen BK149.out 3; obtain ⟨Ao25, co25, eo25⟩ := Kd.R_slice HO146.out; subst eo25))
  (try simp only [Act.put, List.setIfInBounds_toArray, List.set_cons_zero, List.set_cons_succ])
  go_cut [23] (fun v23 wc => ∃ (kq : Nat) (x23_5 : Bool), v23 = .bool x23_5 ∧ Aside0 (coord_begins.j0 kq t148 x23_5 l0_0 a1_0 a1_1 a1_2 a1_3 l1_4 a1_5 l1_6 t142 t143 t144 t147 = some (r1, r2, r3, r4, r5, r6)) ∧ Aside0 (kq ≤ k) ∧ Aside0 (Kd.V k42 42 wc w.heap.size (fun k_ => (P0_0_ k_ ∨ w.heap.size ≤ k_) ∧ some k_ ≠ ((.slice Ao25 t144.length co25) : Value).ownBlock ∧ k_ ≠ gb129 ∧ k_ ≠ gb130 ∧ k_ ≠ gb131 ∧ k_ ≠ gb132 ∧ k_ ≠ gb149) (.slice A0_0 l0_0.length c0_0) l0_0) ∧ Aside0 (Kd.R (Kd.int .u64) 28 wc w.heap.size (fun k_ => (w.heap.size ≤ k_)) (.slice Ao25 t144.length co25) t144) ∧ Aside0 (wc.heap[gb129]? = some (.cells #[(.slice A0_0 l0_0.length c0_0)] 26 (0, 0))) ∧ Aside0 (wc.heap[gb130]? = some (.cells #[.int .i64 a1_0, .int .u64 a1_1, .int .u64 a1_2, .string a1_3, (.slice A1_4 l1_4.length c1_4), .bool a1_5, (.slice A1_6 l1_6.length c1_6)] 38 (0, 0))) ∧ Aside0 (wc.heap[gb131]? = some (.cells #[(.slice none 0 0)] 26 (0, 0))) ∧ Aside0 (wc.heap[gb132]? = some (.cells #[.int .i64 0, .string (⟨#[]⟩ : ByteArray), .int .u64 0, .bool false, .bool false] 30 (0, 0))) ∧ Aside0 (wc.heap[gb149]? = some (.cells #[.int .u64 t142, .int .u64 t143, (.slice Ao25 t144.length co25), .int .i64 t147] 42 (0, 0))) ∧ Aside0 (Below w.heap.size w wc))
  case first =>
   have H := HC6.out
   clear HC6
   by_cases c26 : t148 = true
   ·subst c26
    have H1 : (coord_begins.j0 k true (t147 != 0) l0_0 a1_0 a1_1 a1_2 a1_3 l1_4 a1_5 l1_6 t142 t143 t144 t147) = some (r1, r2, r3, r4, r5, r6) := by rw [if_pos rfl] at H; exact H
    clear H
    have H := H1
    clear H1
    have H' := am_ H
    clear H
    have hnb27 := NB149_129.out
    have hnc27 := NB129_149.out
    have hnb28 := NB149_130.out
    have hnc28 := NB130_149.out
    have hnb29 := NB149_131.out
    have hnc29 := NB131_149.out
    have hnb30 := NB149_132.out
    have hnc30 := NB132_149.out
    have hcz31_0 : w19.cell? ⟨gb149, 0, none⟩ = some (.int .u64 0) := (blk_cell BK149.out 0).trans rfl
    have hcz31_1 : w19.cell? ⟨gb149, 1, none⟩ = some (.int .u64 0) := (blk_cell BK149.out 1).trans rfl
    have hcz31_2 : w19.cell? ⟨gb149, 2, none⟩ = some (.slice none 0 0) := (blk_cell BK149.out 2).trans rfl
    have hcz31_3 : w19.cell? ⟨gb149, 3, none⟩ = some (.int .i64 0) := (blk_cell BK149.out 3).trans rfl
    have hfz31_0 := blk_frozen BK149.out 0
    have hfz31_1 := blk_frozen BK149.out 1
    have hfz31_2 := blk_frozen BK149.out 2
    have hfz31_3 := blk_frozen BK149.out 3
    go_wp2
    go_meet
    case rel => exact ⟨_, ((t147 != 0)), (by first | rfl | (simp; done) | (simp [*]; done)), H', ⟨by first | omega | exact Nat.le_refl _⟩, ⟨by (with_reducible repeat (first | apply Kd.V_alloc | apply Kd.V_drewN | apply Kd.V_drew)); exact Kd.V_mono (Kd.V_far (p := ⟨gb149, 3, none⟩) (Kd.V_far (p := ⟨gb149, 2, none⟩) (Kd.V_far (p := ⟨gb149, 1, none⟩) (Kd.V_far (p := ⟨gb149, 0, none⟩) (Kd.V_mono HO0_0.out (fun k_ hk => (⟨hk, hk.2⟩ : _ ∧ k_ ≠ gb149))) (fun _ hk => hk.2) (.int .u64 t142)) (fun _ hk => hk.2) (.int .u64 t143)) (fun _ hk => hk.2) (.slice Ao25 t144.length co25)) (fun _ hk => hk.2) (.int .i64 t147)) (fun _ hk => ⟨hk.1.1.1.1.1.1.1, ⟨hk.1.1.2, ⟨hk.1.1.1.1.1.1.2, ⟨hk.1.1.1.1.1.2, ⟨hk.1.1.1.1.2, ⟨hk.1.1.1.2, hk.1.2⟩⟩⟩⟩⟩⟩)⟩, ⟨by (with_reducible repeat (first | apply Kd.R_alloc | apply Kd.R_drewN | apply Kd.R_drew)); exact Kd.R_mono (Kd.R_far (p := ⟨gb149, 3, none⟩) (Kd.R_far (p := ⟨gb149, 2, none⟩) (Kd.R_far (p := ⟨gb149, 1, none⟩) (Kd.R_far (p := ⟨gb149, 0, none⟩) (Kd.R_types HO146.out BK149.out (by decide)) (fun _ hk => hk.2) (.int .u64 t142)) (fun _ hk => hk.2) (.int .u64 t143)) (fun _ hk => hk.2) (.slice Ao25 t144.length co25)) (fun _ hk => hk.2) (.int .i64 t147)) (fun _ hk => hk.1.1)⟩, ⟨by (with_reducible repeat (first | refine blk_drewN ?_ _ | refine blk_drew ?_ | refine blk_alloc ?_ _)); refine blk_far ?_ NB129_149.out _; (with_reducible repeat (first | refine blk_drewN ?_ _ | refine blk_drew ?_ | refine blk_alloc ?_ _)); refine blk_far ?_ NB129_149.out _; (with_reducible repeat (first | refine blk_drewN ?_ _ | refine blk_drew ?_ | refine blk_alloc ?_ _)); refine blk_far ?_ NB129_149.out _; (with_reducible repeat (first | refine blk_drewN ?_ _ | refine blk_drew ?_ | refine blk_alloc ?_ _)); refine blk_far ?_ NB129_149.out _; (with_reducible repeat (first | refine blk_drewN ?_ _ | refine blk_drew ?_ | refine blk_alloc ?_ _)); exact BK129.out⟩, ⟨by (with_reducible repeat (first | refine blk_drewN ?_ _ | refine blk_drew ?_ | refine blk_alloc ?_ _)); refine blk_far ?_ NB130_149.out _; (with_reducible repeat (first | refine blk_drewN ?_ _ | refine blk_drew ?_ | refine blk_alloc ?_ _)); refine blk_far ?_ NB130_149.out _; (with_reducible repeat (first | refine blk_drewN ?_ _ | refine blk_drew ?_ | refine blk_alloc ?_ _)); refine blk_far ?_ NB130_149.out _; (with_reducible repeat (first | refine blk_drewN ?_ _ | refine blk_drew ?_ | refine blk_alloc ?_ _)); refine blk_far ?_ NB130_149.out _; (with_reducible repeat (first | refine blk_drewN ?_ _ | refine blk_drew ?_ | refine blk_alloc ?_ _)); exact BK130.out⟩, ⟨by (with_reducible repeat (first | refine blk_drewN ?_ _ | refine blk_drew ?_ | refine blk_alloc ?_ _)); refine blk_far ?_ NB131_149.out _; (with_reducible repeat (first | refine blk_drewN ?_ _ | refine blk_drew ?_ | refine blk_alloc ?_ _)); refine blk_far ?_ NB131_149.out _; (with_reducible repeat (first | refine blk_drewN ?_ _ | refine blk_drew ?_ | refine blk_alloc ?_ _)); refine blk_far ?_ NB131_149.out _; (with_reducible repeat (first | refine blk_drewN ?_ _ | refine blk_drew ?_ | refine blk_alloc ?_ _)); refine blk_far ?_ NB131_149.out _; (with_reducible repeat (first | refine blk_drewN ?_ _ | refine blk_drew ?_ | refine blk_alloc ?_ _)); exact BK131.out⟩, ⟨by (with_reducible repeat (first | refine blk_drewN ?_ _ | refine blk_drew ?_ | refine blk_alloc ?_ _)); refine blk_far ?_ NB132_149.out _; (with_reducible repeat (first | refine blk_drewN ?_ _ | refine blk_drew ?_ | refine blk_alloc ?_ _)); refine blk_far ?_ NB132_149.out _; (with_reducible repeat (first | refine blk_drewN ?_ _ | refine blk_drew ?_ | refine blk_alloc ?_ _)); refine blk_far ?_ NB132_149.out _; (with_reducible repeat (first | refine blk_drewN ?_ _ | refine blk_drew ?_ | refine blk_alloc ?_ _)); refine blk_far ?_ NB132_149.out _; (with_reducible repeat (first | refine blk_drewN ?_ _ | refine blk_drew ?_ | refine blk_alloc ?_ _)); exact BK132.out⟩, ⟨by (with_reducible repeat (first | refine blk_drewN ?_ _ | refine blk_drew ?_ | refine blk_alloc ?_ _)); refine blk_put (cs := #[.int .u64 t142, .int .u64 t143, .slice Ao25 t144.length co25, .int .i64 0]) ?_ 3 _ rfl; (with_reducible repeat (first | refine blk_drewN ?_ _ | refine blk_drew ?_ | refine blk_alloc ?_ _)); refine blk_put (cs := #[.int .u64 t142, .int .u64 t143, .slice none 0 0, .int .i64 0]) ?_ 2 _ rfl; (with_reducible repeat (first | refine blk_drewN ?_ _ | refine blk_drew ?_ | refine blk_alloc ?_ _)); refine blk_put (cs := #[.int .u64 t142, .int .u64 0, .slice none 0 0, .int .i64 0]) ?_ 1 _ rfl; (with_reducible repeat (first | refine blk_drewN ?_ _ | refine blk_drew ?_ | refine blk_alloc ?_ _)); refine blk_put (cs := #[.int .u64 0, .int .u64 0, .slice none 0 0, .int .i64 0]) ?_ 0 _ rfl; (with_reducible repeat (first | refine blk_drewN ?_ _ | refine blk_drew ?_ | refine blk_alloc ?_ _)); exact BK149.out⟩, ⟨hx_ HB⟩⟩
   ·replace c26 := Bool.eq_false_iff.mpr c26
    subst c26
    have H1 : (coord_begins.j0 k false false l0_0 a1_0 a1_1 a1_2 a1_3 l1_4 a1_5 l1_6 t142 t143 t144 t147) = some (r1, r2, r3, r4, r5, r6) := by rw [if_neg (show ¬ (false = true) by decide)] at H; exact H
    clear H
    have H := H1
    clear H1
    have H' := am_ H
    clear H
    go_wp2
    go_meet
    case rel => exact ⟨_, (false), (by first | rfl | (simp; done) | (simp [*]; done)), H', ⟨by first | omega | exact Nat.le_refl _⟩, ⟨by (with_reducible repeat (first | apply Kd.V_alloc | apply Kd.V_drewN | apply Kd.V_drew)); exact Kd.V_mono (Kd.V_far (p := ⟨gb149, 3, none⟩) (Kd.V_far (p := ⟨gb149, 2, none⟩) (Kd.V_far (p := ⟨gb149, 1, none⟩) (Kd.V_far (p := ⟨gb149, 0, none⟩) (Kd.V_mono HO0_0.out (fun k_ hk => (⟨hk, hk.2⟩ : _ ∧ k_ ≠ gb149))) (fun _ hk => hk.2) (.int .u64 t142)) (fun _ hk => hk.2) (.int .u64 t143)) (fun _ hk => hk.2) (.slice Ao25 t144.length co25)) (fun _ hk => hk.2) (.int .i64 t147)) (fun _ hk => ⟨hk.1.1.1.1.1.1.1, ⟨hk.1.1.2, ⟨hk.1.1.1.1.1.1.2, ⟨hk.1.1.1.1.1.2, ⟨hk.1.1.1.1.2, ⟨hk.1.1.1.2, hk.1.2⟩⟩⟩⟩⟩⟩)⟩, ⟨by (with_reducible repeat (first | apply Kd.R_alloc | apply Kd.R_drewN | apply Kd.R_drew)); exact Kd.R_mono (Kd.R_far (p := ⟨gb149, 3, none⟩) (Kd.R_far (p := ⟨gb149, 2, none⟩) (Kd.R_far (p := ⟨gb149, 1, none⟩) (Kd.R_far (p := ⟨gb149, 0, none⟩) (Kd.R_types HO146.out BK149.out (by decide)) (fun _ hk => hk.2) (.int .u64 t142)) (fun _ hk => hk.2) (.int .u64 t143)) (fun _ hk => hk.2) (.slice Ao25 t144.length co25)) (fun _ hk => hk.2) (.int .i64 t147)) (fun _ hk => hk.1.1)⟩, ⟨by (with_reducible repeat (first | refine blk_drewN ?_ _ | refine blk_drew ?_ | refine blk_alloc ?_ _)); refine blk_far ?_ NB129_149.out _; (with_reducible repeat (first | refine blk_drewN ?_ _ | refine blk_drew ?_ | refine blk_alloc ?_ _)); refine blk_far ?_ NB129_149.out _; (with_reducible repeat (first | refine blk_drewN ?_ _ | refine blk_drew ?_ | refine blk_alloc ?_ _)); refine blk_far ?_ NB129_149.out _; (with_reducible repeat (first | refine blk_drewN ?_ _ | refine blk_drew ?_ | refine blk_alloc ?_ _)); refine blk_far ?_ NB129_149.out _; (with_reducible repeat (first | refine blk_drewN ?_ _ | refine blk_drew ?_ | refine blk_alloc ?_ _)); exact BK129.out⟩, ⟨by (with_reducible repeat (first | refine blk_drewN ?_ _ | refine blk_drew ?_ | refine blk_alloc ?_ _)); refine blk_far ?_ NB130_149.out _; (with_reducible repeat (first | refine blk_drewN ?_ _ | refine blk_drew ?_ | refine blk_alloc ?_ _)); refine blk_far ?_ NB130_149.out _; (with_reducible repeat (first | refine blk_drewN ?_ _ | refine blk_drew ?_ | refine blk_alloc ?_ _)); refine blk_far ?_ NB130_149.out _; (with_reducible repeat (first | refine blk_drewN ?_ _ | refine blk_drew ?_ | refine blk_alloc ?_ _)); refine blk_far ?_ NB130_149.out _; (with_reducible repeat (first | refine blk_drewN ?_ _ | refine blk_drew ?_ | refine blk_alloc ?_ _)); exact BK130.out⟩, ⟨by (with_reducible repeat (first | refine blk_drewN ?_ _ | refine blk_drew ?_ | refine blk_alloc ?_ _)); refine blk_far ?_ NB131_149.out _; (with_reducible repeat (first | refine blk_drewN ?_ _ | refine blk_drew ?_ | refine blk_alloc ?_ _)); refine blk_far ?_ NB131_149.out _; (with_reducible repeat (first | refine blk_drewN ?_ _ | refine blk_drew ?_ | refine blk_alloc ?_ _)); refine blk_far ?_ NB131_149.out _; (with_reducible repeat (first | refine blk_drewN ?_ _ | refine blk_drew ?_ | refine blk_alloc ?_ _)); refine blk_far ?_ NB131_149.out _; (with_reducible repeat (first | refine blk_drewN ?_ _ | refine blk_drew ?_ | refine blk_alloc ?_ _)); exact BK131.out⟩, ⟨by (with_reducible repeat (first | refine blk_drewN ?_ _ | refine blk_drew ?_ | refine blk_alloc ?_ _)); refine blk_far ?_ NB132_149.out _; (with_reducible repeat (first | refine blk_drewN ?_ _ | refine blk_drew ?_ | refine blk_alloc ?_ _)); refine blk_far ?_ NB132_149.out _; (with_reducible repeat (first | refine blk_drewN ?_ _ | refine blk_drew ?_ | refine blk_alloc ?_ _)); refine blk_far ?_ NB132_149.out _; (with_reducible repeat (first | refine blk_drewN ?_ _ | refine blk_drew ?_ | refine blk_alloc ?_ _)); refine blk_far ?_ NB132_149.out _; (with_reducible repeat (first | refine blk_drewN ?_ _ | refine blk_drew ?_ | refine blk_alloc ?_ _)); exact BK132.out⟩, ⟨by (with_reducible repeat (first | refine blk_drewN ?_ _ | refine blk_drew ?_ | refine blk_alloc ?_ _)); refine blk_put (cs := #[.int .u64 t142, .int .u64 t143, .slice Ao25 t144.length co25, .int .i64 0]) ?_ 3 _ rfl; (with_reducible repeat (first | refine blk_drewN ?_ _ | refine blk_drew ?_ | refine blk_alloc ?_ _)); refine blk_put (cs := #[.int .u64 t142, .int .u64 t143, .slice none 0 0, .int .i64 0]) ?_ 2 _ rfl; (with_reducible repeat (first | refine blk_drewN ?_ _ | refine blk_drew ?_ | refine blk_alloc ?_ _)); refine blk_put (cs := #[.int .u64 t142, .int .u64 0, .slice none 0 0, .int .i64 0]) ?_ 1 _ rfl; (with_reducible repeat (first | refine blk_drewN ?_ _ | refine blk_drew ?_ | refine blk_alloc ?_ _)); refine blk_put (cs := #[.int .u64 0, .int .u64 0, .slice none 0 0, .int .i64 0]) ?_ 0 _ rfl; (with_reducible repeat (first | refine blk_drewN ?_ _ | refine blk_drew ?_ | refine blk_alloc ?_ _)); exact BK149.out⟩, ⟨hx_ HB⟩⟩
  case rest =>
   clear HC6
   try clear c1
   try clear c2
   try clear p2
   try clear c3
   try clear c4
   try clear c11
   try clear c12
   try clear c13
   try clear c14
   try clear c15
   try clear c16
   try clear c17
   try clear c20
   try clear c21
   try clear c22
   try clear c23
   try clear c26
   try clear c27
   try clear c28
   try clear c29
   try clear c30
   try clear hcz14_0
   try clear hcz14_1
   try clear hcz14_2
   try clear hcz14_3
   try clear hcz14_4
   try clear hcz14_5
   try clear hcz14_6
   try clear hcz17_0
   try clear hcz24_0
   try clear hcz24_1
   try clear hcz24_2
   try clear hcz24_3
   try clear hcz31_0
   try clear hcz31_1
   try clear hcz31_2
   try clear hcz31_3
   try clear hfz14_0
   try clear hfz14_1
   try clear hfz14_2
   try clear hfz14_3
   try clear hfz14_4
   try clear hfz14_5
   try clear hfz14_6
   try clear hfz17_0
   try clear hfz24_0
   try clear hfz24_1
   try clear hfz24_2
   try clear hfz24_3
   try clear hfz31_0
   try clear hfz31_1
   try clear hfz31_2
   try clear hfz31_3
   obtain ⟨kq, x23_5, rfl, HA, HJ5, HO_130000, HO_150002, BK129, BK130, BK131, BK132, BK149, HB⟩ := hcut
   cases kq with
   | zero => exact absurd HA.out (by simp [coord_begins.j0])
   | succ kj5 =>
    have H := HA.out
    clear HA
    simp only [coord_begins.j0] at H
    by_cases c32 : x23_5 = true
    ·subst c32
     have H1 : (some (l0_0, 13, (⟨#[]⟩ : ByteArray), 0, false, (t147 == 1))) = some (r1, r2, r3, r4, r5, r6) := by rw [if_pos rfl] at H; exact H
     clear H
     have H := H1
     clear H1
     simp only [Option.some.injEq, Prod.mk.injEq] at H
     obtain ⟨rfl, rfl, rfl, rfl, rfl, rfl⟩ := H
     try go_wp2
     have n0_ := am_ (Kd.V_drew HO_130000.out)
     have n1_ := am_ (Kd.R_drew HO_150002.out)
     have n2_ := am_ (blk_drew BK129.out)
     have n3_ := am_ (blk_drew BK130.out)
     have n4_ := am_ (blk_drew BK131.out)
     have n5_ := am_ (blk_drew BK132.out)
     have n6_ := am_ (blk_drew BK149.out)
     have n7_ := am_ (below_drew1 HB.out)
     clear HO_130000
     clear HO_150002
     clear BK129
     clear BK130
     clear BK131
     clear BK132
     clear BK149
     clear HB
     have HO_130000 := n0_
     have HO_150002 := n1_
     have BK129 := n2_
     have BK130 := n3_
     have BK131 := n4_
     have BK132 := n5_
     have BK149 := n6_
     have HB := n7_
     clear n0_ n1_ n2_ n3_ n4_ n5_ n6_ n7_
     refine start_ (n := 7) (S := fun w' => w'.cell? ⟨gb129, 0, none⟩ = some (.slice A0_0 l0_0.length c0_0) ∧ w'.cell? ⟨gb149, 0, none⟩ = some (.int .u64 t142) ∧ w'.cell? ⟨gb149, 1, none⟩ = some (.int .u64 t143) ∧ w'.cell? ⟨gb149, 2, none⟩ = some (.slice Ao25 t144.length co25) ∧ w'.cell? ⟨gb149, 3, none⟩ = some (.int .i64 t147)) (ds := []) bN0_ (by kernel_rfl) rfl rfl ⟨(blk_cell BK129.out 0).trans rfl, (blk_cell BK149.out 0).trans rfl, (blk_cell BK149.out 1).trans rfl, (blk_cell BK149.out 2).trans rfl, (blk_cell BK149.out 3).trans rfl⟩ (fun hHeld => ?_)
     generalize wc.drew = w33 at HO_130000 HO_150002 BK129 BK130 BK131 BK132 BK149 HB hHeld ⊢
     refine pure_ (i := 1) (N := some 31) (v := ?_) (a' := ?_) bN1_ rfl rfl (by kernel_rfl) (fun _ _ _ h => h) (Or.inl ⟨by rfl, ?_⟩) ?_ ?_; rotate_left; (intro w'; go_simp; with_reducible rfl); rotate_left; (simp only [Act.put, List.setIfInBounds_toArray, List.set_cons_zero, List.set_cons_succ, i64_w, i32_w]; rfl)
     refine take_ (i := 0) (N := some 30) (v := ?_) (a' := ?_) bN2_ rfl rfl (by kernel_rfl) (fun _ _ _ h => h) (Or.inl ⟨by rfl, ?_⟩) hHeld ?_ ?_; rotate_left; (rintro w' ⟨s0, s1, s2, s3, s4⟩; go_simp; with_reducible rfl); rotate_left; (simp only [Act.put, List.setIfInBounds_toArray, List.set_cons_zero, List.set_cons_succ, i64_w, i32_w]; rfl)
     refine take_ (i := 2) (N := some 32) (v := ?_) (a' := ?_) bN3_ rfl rfl (by kernel_rfl) (fun _ _ _ h => h) (Or.inl ⟨by rfl, ?_⟩) hHeld ?_ ?_; rotate_left; (rintro w' ⟨s0, s1, s2, s3, s4⟩; go_simp; with_reducible rfl); rotate_left; (simp only [Act.put, List.setIfInBounds_toArray, List.set_cons_zero, List.set_cons_succ, i64_w, i32_w]; rfl)
     refine pure_ (i := 3) (N := some 33) (v := ?_) (a' := ?_) bN4_ rfl rfl (by kernel_rfl) (fun _ _ _ h => h) (Or.inl ⟨by rfl, ?_⟩) ?_ ?_; rotate_left; (intro w'; go_simp; with_reducible rfl); rotate_left; (simp only [Act.put, List.setIfInBounds_toArray, List.set_cons_zero, List.set_cons_succ, i64_w, i32_w]; rfl)
     refine pure_ (i := 4) (N := some 34) (v := ?_) (a' := ?_) bN5_ rfl rfl (by kernel_rfl) (fun _ _ _ h => h) (Or.inl ⟨by rfl, ?_⟩) ?_ ?_; rotate_left; (intro w'; go_simp; with_reducible rfl); rotate_left; (simp only [Act.put, List.setIfInBounds_toArray, List.set_cons_zero, List.set_cons_succ, i64_w, i32_w]; rfl)
     refine one_ (i := 5) (N := none) bN6_ rfl rfl (by kernel_rfl) (by decide) (fun K hK => ?_)
     have hs34 : w33.cell? ⟨gb131, 0, none⟩ = some (.slice none 0 0) := (blk_cell BK131.out 0).trans rfl
     have hfs34 := blk_frozen BK131.out 0
     have hns34_0 := NB129_131.out
     have hns34_1 := NB130_131.out
     have hns34_3 := NB132_131.out
     have hns34_4 := NB149_131.out
     have hms34_0 := NB131_129.out
     have hms34_1 := NB131_130.out
     have hms34_3 := NB131_132.out
     have hms34_4 := NB131_149.out
     refine skip_ (w1 := ?_) (by rfl) rfl ?_ ?_
     rotate_left
     ·go_simp
      rfl
     refine hK.out _ _ ⟨((cell_far (p := ⟨gb131, _, none⟩) NB129_131.out _).trans (hHeld.1)), ((cell_far (p := ⟨gb131, _, none⟩) NB149_131.out _).trans (hHeld.2.1)), ((cell_far (p := ⟨gb131, _, none⟩) NB149_131.out _).trans (hHeld.2.2.1)), ((cell_far (p := ⟨gb131, _, none⟩) NB149_131.out _).trans (hHeld.2.2.2.1)), ((cell_far (p := ⟨gb131, _, none⟩) NB149_131.out _).trans (hHeld.2.2.2.2))⟩ (fun hHeld => ?_)
     clear hK K
     refine one_ (i := 6) (N := none) bN7_ rfl rfl (by kernel_rfl) (by decide) (fun K hK => ?_)
     have hs35 : w33.cell? ⟨gb132, 0, none⟩ = some (.int .i64 0) := (blk_cell BK132.out 0).trans rfl
     have hfs35 := blk_frozen BK132.out 0
     have hns35_0 := NB129_132.out
     have hns35_1 := NB130_132.out
     have hns35_2 := NB131_132.out
     have hns35_4 := NB149_132.out
     have hms35_0 := NB132_129.out
     have hms35_1 := NB132_130.out
     have hms35_2 := NB132_131.out
     have hms35_4 := NB132_149.out
     have hs36 : w33.cell? ⟨gb132, 1, none⟩ = some (.string (⟨#[]⟩ : ByteArray)) := (blk_cell BK132.out 1).trans rfl
     have hfs36 := blk_frozen BK132.out 1
     have hns36_0 := NB129_132.out
     have hns36_1 := NB130_132.out
     have hns36_2 := NB131_132.out
     have hns36_4 := NB149_132.out
     have hms36_0 := NB132_129.out
     have hms36_1 := NB132_130.out
     have hms36_2 := NB132_131.out
     have hms36_4 := NB132_149.out
     have hs37 : w33.cell? ⟨gb132, 2, none⟩ = some (.int .u64 0) := (blk_cell BK132.out 2).trans rfl
     have hfs37 := blk_frozen BK132.out 2
     have hns37_0 := NB129_132.out
     have hns37_1 := NB130_132.out
     have hns37_2 := NB131_132.out
     have hns37_4 := NB149_132.out
     have hms37_0 := NB132_129.out
     have hms37_1 := NB132_130.out
     have hms37_2 := NB132_131.out
     have hms37_4 := NB132_149.out
     have hs38 : w33.cell? ⟨gb132, 3, none⟩ = some (.bool false) := (blk_cell BK132.out 3).trans rfl
     have hfs38 := blk_frozen BK132.out 3
     have hns38_0 := NB129_132.out
     have hns38_1 := NB130_132.out
     have hns38_2 := NB131_132.out
     have hns38_4 := NB149_132.out
     have hms38_0 := NB132_129.out
     have hms38_1 := NB132_130.out
     have hms38_2 := NB132_131.out
     have hms38_4 := NB132_149.out
     have hs39 : w33.cell? ⟨gb132, 4, none⟩ = some (.bool false) := (blk_cell BK132.out 4).trans rfl
     have hfs39 := blk_frozen BK132.out 4
     have hns39_0 := NB129_132.out
     have hns39_1 := NB130_132.out
     have hns39_2 := NB131_132.out
     have hns39_4 := NB149_132.out
     have hms39_0 := NB132_129.out
     have hms39_1 := NB132_130.out
     have hms39_2 := NB132_131.out
     have hms39_4 := NB132_149.out
     refine skip_ (w1 := ?_) (by rfl) rfl ?_ ?_
     rotate_left
     ·go_simp
      rfl
     refine hK.out _ _ ⟨((cell_far (p := ⟨gb132, _, none⟩) NB129_132.out _).trans (((cell_far (p := ⟨gb132, _, none⟩) NB129_132.out _).trans (((cell_far (p := ⟨gb132, _, none⟩) NB129_132.out _).trans (((cell_far (p := ⟨gb132, _, none⟩) NB129_132.out _).trans (((cell_far (p := ⟨gb132, _, none⟩) NB129_132.out _).trans (hHeld.1)))))))))), ((cell_far (p := ⟨gb132, _, none⟩) NB149_132.out _).trans (((cell_far (p := ⟨gb132, _, none⟩) NB149_132.out _).trans (((cell_far (p := ⟨gb132, _, none⟩) NB149_132.out _).trans (((cell_far (p := ⟨gb132, _, none⟩) NB149_132.out _).trans (((cell_far (p := ⟨gb132, _, none⟩) NB149_132.out _).trans (hHeld.2.1)))))))))), ((cell_far (p := ⟨gb132, _, none⟩) NB149_132.out _).trans (((cell_far (p := ⟨gb132, _, none⟩) NB149_132.out _).trans (((cell_far (p := ⟨gb132, _, none⟩) NB149_132.out _).trans (((cell_far (p := ⟨gb132, _, none⟩) NB149_132.out _).trans (((cell_far (p := ⟨gb132, _, none⟩) NB149_132.out _).trans (hHeld.2.2.1)))))))))), ((cell_far (p := ⟨gb132, _, none⟩) NB149_132.out _).trans (((cell_far (p := ⟨gb132, _, none⟩) NB149_132.out _).trans (((cell_far (p := ⟨gb132, _, none⟩) NB149_132.out _).trans (((cell_far (p := ⟨gb132, _, none⟩) NB149_132.out _).trans (((cell_far (p := ⟨gb132, _, none⟩) NB149_132.out _).trans (hHeld.2.2.2.1)))))))))), ((cell_far (p := ⟨gb132, _, none⟩) NB149_132.out _).trans (((cell_far (p := ⟨gb132, _, none⟩) NB149_132.out _).trans (((cell_far (p := ⟨gb132, _, none⟩) NB149_132.out _).trans (((cell_far (p := ⟨gb132, _, none⟩) NB149_132.out _).trans (((cell_far (p := ⟨gb132, _, none⟩) NB149_132.out _).trans (hHeld.2.2.2.2))))))))))⟩ (fun hHeld => ?_)
     clear hK K
     refine done_ (by kernel_rfl) ?_
     try go_wp2
     refine bodyPost_ret (results_cc rfl _ _ gb131 gb132 26 30 #[.slice A0_0 l0_0.length c0_0] #[.int .i64 13, .string (⟨#[]⟩ : ByteArray), .int .u64 0, .bool false, .bool (t147 == 1)] (0, 0) (0, 0) _ _ rfl (by (with_reducible repeat (first | refine blk_drewN ?_ _ | refine blk_drew ?_ | refine blk_alloc ?_ _)); refine blk_far ?_ NB131_132.out _; (with_reducible repeat (first | refine blk_drewN ?_ _ | refine blk_drew ?_ | refine blk_alloc ?_ _)); refine blk_far ?_ NB131_132.out _; (with_reducible repeat (first | refine blk_drewN ?_ _ | refine blk_drew ?_ | refine blk_alloc ?_ _)); refine blk_far ?_ NB131_132.out _; (with_reducible repeat (first | refine blk_drewN ?_ _ | refine blk_drew ?_ | refine blk_alloc ?_ _)); refine blk_far ?_ NB131_132.out _; (with_reducible repeat (first | refine blk_drewN ?_ _ | refine blk_drew ?_ | refine blk_alloc ?_ _)); refine blk_far ?_ NB131_132.out _; (with_reducible repeat (first | refine blk_drewN ?_ _ | refine blk_drew ?_ | refine blk_alloc ?_ _)); refine blk_put (cs := #[.slice none 0 0]) ?_ 0 _ rfl; (with_reducible repeat (first | refine blk_drewN ?_ _ | refine blk_drew ?_ | refine blk_alloc ?_ _)); exact BK131.out) Try.underlying26 rfl (by kernel_rfl) rfl (by (with_reducible repeat (first | refine blk_drewN ?_ _ | refine blk_drew ?_ | refine blk_alloc ?_ _)); refine blk_put (cs := #[.int .i64 13, .string (⟨#[]⟩ : ByteArray), .int .u64 0, .bool false, .bool false]) ?_ 4 _ rfl; (with_reducible repeat (first | refine blk_drewN ?_ _ | refine blk_drew ?_ | refine blk_alloc ?_ _)); refine blk_put (cs := #[.int .i64 13, .string (⟨#[]⟩ : ByteArray), .int .u64 0, .bool false, .bool false]) ?_ 3 _ rfl; (with_reducible repeat (first | refine blk_drewN ?_ _ | refine blk_drew ?_ | refine blk_alloc ?_ _)); refine blk_put (cs := #[.int .i64 13, .string (⟨#[]⟩ : ByteArray), .int .u64 0, .bool false, .bool false]) ?_ 2 _ rfl; (with_reducible repeat (first | refine blk_drewN ?_ _ | refine blk_drew ?_ | refine blk_alloc ?_ _)); refine blk_put (cs := #[.int .i64 13, .string (⟨#[]⟩ : ByteArray), .int .u64 0, .bool false, .bool false]) ?_ 1 _ rfl; (with_reducible repeat (first | refine blk_drewN ?_ _ | refine blk_drew ?_ | refine blk_alloc ?_ _)); refine blk_put (cs := #[.int .i64 0, .string (⟨#[]⟩ : ByteArray), .int .u64 0, .bool false, .bool false]) ?_ 0 _ rfl; (with_reducible repeat (first | refine blk_drewN ?_ _ | refine blk_drew ?_ | refine blk_alloc ?_ _)); refine blk_far ?_ NB132_131.out _; (with_reducible repeat (first | refine blk_drewN ?_ _ | refine blk_drew ?_ | refine blk_alloc ?_ _)); exact BK132.out) Try.underlying30 rfl (by kernel_rfl)) rfl ?_
     exact ⟨_, by first | rfl | (simp [errW_none, errW_some] <;> rfl) | (simp [*, errW_none, errW_some] <;> rfl), by (with_reducible repeat (first | apply Kd.V_alloc | apply Kd.V_drewN | apply Kd.V_drew)); exact Kd.V_mono (Kd.V_far (p := ⟨gb132, 4, none⟩) (Kd.V_far (p := ⟨gb132, 3, none⟩) (Kd.V_far (p := ⟨gb132, 2, none⟩) (Kd.V_far (p := ⟨gb132, 1, none⟩) (Kd.V_far (p := ⟨gb132, 0, none⟩) (Kd.V_far (p := ⟨gb131, 0, none⟩) (Kd.V_mono (Kd.V_mono HO_130000.out (fun k_ hk => (⟨hk, hk.2.2.2.2.1⟩ : _ ∧ k_ ≠ gb131))) (fun k_ hk => (⟨hk, hk.1.2.2.2.2.2.1⟩ : _ ∧ k_ ≠ gb132))) (fun _ hk => hk.1.2) (.slice A0_0 l0_0.length c0_0)) (fun _ hk => hk.2) (.int .i64 13)) (fun _ hk => hk.2) (.string (⟨#[]⟩ : ByteArray))) (fun _ hk => hk.2) (.int .u64 0)) (fun _ hk => hk.2) (.bool false)) (fun _ hk => hk.2) (.bool (t147 == 1))) (fun _ hk => hk.1.1.1), hx_ HB⟩
    ·replace c32 := Bool.eq_false_iff.mpr c32
     subst c32
     have H1 : (if t148 = true then ((slices_Equal_uint64_uint64.f kj5 t144 l1_6).bind fun t150 => (coord_begins.j1 kj5 t148 t150 l0_0 a1_0 a1_1 a1_2 a1_3 l1_4 a1_5 l1_6)) else (coord_begins.j1 kj5 t148 false l0_0 a1_0 a1_1 a1_2 a1_3 l1_4 a1_5 l1_6)) = some (r1, r2, r3, r4, r5, r6) := by rw [if_neg (show ¬ (false = true) by decide)] at H; exact H
     clear H
     have H := H1
     clear H1
     have HC40 := am_ H
     clear H
     go_upto_region 6 with (fail)
     go_cut [35] (fun v35 wc => ∃ (kq : Nat) (x35_39 : Bool), v35 = .bool x35_39 ∧ Aside0 (coord_begins.j1 kq t148 x35_39 l0_0 a1_0 a1_1 a1_2 a1_3 l1_4 a1_5 l1_6 = some (r1, r2, r3, r4, r5, r6)) ∧ Aside0 (kq ≤ kj5) ∧ Aside0 (Kd.V k42 42 wc w.heap.size (fun k_ => (P0_0_ k_ ∨ w.heap.size ≤ k_) ∧ some k_ ≠ ((.slice Ao25 t144.length co25) : Value).ownBlock ∧ k_ ≠ gb129 ∧ k_ ≠ gb130 ∧ k_ ≠ gb131 ∧ k_ ≠ gb132 ∧ k_ ≠ gb149) (.slice A0_0 l0_0.length c0_0) l0_0) ∧ Aside0 (Kd.R (Kd.int .u64) 28 wc w.heap.size (fun k_ => (w.heap.size ≤ k_)) (.slice Ao25 t144.length co25) t144) ∧ Aside0 (wc.heap[gb129]? = some (.cells #[(.slice A0_0 l0_0.length c0_0)] 26 (0, 0))) ∧ Aside0 (wc.heap[gb130]? = some (.cells #[.int .i64 a1_0, .int .u64 a1_1, .int .u64 a1_2, .string a1_3, (.slice A1_4 l1_4.length c1_4), .bool a1_5, (.slice A1_6 l1_6.length c1_6)] 38 (0, 0))) ∧ Aside0 (wc.heap[gb131]? = some (.cells #[(.slice none 0 0)] 26 (0, 0))) ∧ Aside0 (wc.heap[gb132]? = some (.cells #[.int .i64 0, .string (⟨#[]⟩ : ByteArray), .int .u64 0, .bool false, .bool false] 30 (0, 0))) ∧ Aside0 (wc.heap[gb149]? = some (.cells #[.int .u64 t142, .int .u64 t143, (.slice Ao25 t144.length co25), .int .i64 t147] 42 (0, 0))) ∧ Aside0 (Below w.heap.size w wc))
     case first =>
      have H := HC40.out
      clear HC40
      by_cases c41 : t148 = true
      ·subst c41
       have H1 : ((slices_Equal_uint64_uint64.f kj5 t144 l1_6).bind fun t150 => (coord_begins.j1 kj5 true t150 l0_0 a1_0 a1_1 a1_2 a1_3 l1_4 a1_5 l1_6)) = some (r1, r2, r3, r4, r5, r6) := by rw [if_pos rfl] at H; exact H
       clear H
       have H := H1
       clear H1
       replace H := Option.bind_eq_some_iff.mp H
       obtain ⟨t150, A420, H⟩ := H
       replace H : (coord_begins.j1 kj5 true t150 l0_0 a1_0 a1_1 a1_2 a1_3 l1_4 a1_5 l1_6) = some (r1, r2, r3, r4, r5, r6) := H
       have A42 := am_ A420
       clear A420
       have H' := am_ H
       clear H
       have hnb43 := NB149_129.out
       have hnc43 := NB129_149.out
       have hnb44 := NB149_130.out
       have hnc44 := NB130_149.out
       have hnb45 := NB149_131.out
       have hnc45 := NB131_149.out
       have hnb46 := NB149_132.out
       have hnc46 := NB132_149.out
       have hcz47_0 : wc.cell? ⟨gb149, 0, none⟩ = some (.int .u64 t142) := (blk_cell BK149.out 0).trans rfl
       have hcz47_1 : wc.cell? ⟨gb149, 1, none⟩ = some (.int .u64 t143) := (blk_cell BK149.out 1).trans rfl
       have hcz47_2 : wc.cell? ⟨gb149, 2, none⟩ = some (.slice Ao25 t144.length co25) := (blk_cell BK149.out 2).trans rfl
       have hcz47_3 : wc.cell? ⟨gb149, 3, none⟩ = some (.int .i64 t147) := (blk_cell BK149.out 3).trans rfl
       have hfz47_0 := blk_frozen BK149.out 0
       have hfz47_1 := blk_frozen BK149.out 1
       have hfz47_2 := blk_frozen BK149.out 2
       have hfz47_3 := blk_frozen BK149.out 3
       have hnb48 := NB130_129.out
       have hnc48 := NB129_130.out
       have hnb49 := NB130_131.out
       have hnc49 := NB131_130.out
       have hnb50 := NB130_132.out
       have hnc50 := NB132_130.out
       have hcz51_0 : wc.cell? ⟨gb130, 0, none⟩ = some (.int .i64 a1_0) := (blk_cell BK130.out 0).trans rfl
       have hcz51_1 : wc.cell? ⟨gb130, 1, none⟩ = some (.int .u64 a1_1) := (blk_cell BK130.out 1).trans rfl
       have hcz51_2 : wc.cell? ⟨gb130, 2, none⟩ = some (.int .u64 a1_2) := (blk_cell BK130.out 2).trans rfl
       have hcz51_3 : wc.cell? ⟨gb130, 3, none⟩ = some (.string a1_3) := (blk_cell BK130.out 3).trans rfl
       have hcz51_4 : wc.cell? ⟨gb130, 4, none⟩ = some (.slice A1_4 l1_4.length c1_4) := (blk_cell BK130.out 4).trans rfl
       have hcz51_5 : wc.cell? ⟨gb130, 5, none⟩ = some (.bool a1_5) := (blk_cell BK130.out 5).trans rfl
       have hcz51_6 : wc.cell? ⟨gb130, 6, none⟩ = some (.slice A1_6 l1_6.length c1_6) := (blk_cell BK130.out 6).trans rfl
       have hfz51_0 := blk_frozen BK130.out 0
       have hfz51_1 := blk_frozen BK130.out 1
       have hfz51_2 := blk_frozen BK130.out 2
       have hfz51_3 := blk_frozen BK130.out 3
       have hfz51_4 := blk_frozen BK130.out 4
       have hfz51_5 := blk_frozen BK130.out 5
       have hfz51_6 := blk_frozen BK130.out 6
       go_wp2_with (first | (go_at_call 29; (with_reducible refine (slices_Equal_uint64_uint64.calls kj5 _ _ t144 _ _ l1_6 t150 _ ?side1 ?side2 ?side3 ?side4 A42.out).mono ?_); (case side1 => repeat (first | exact (Kd.R_reads' HO_150002.out).2.2 | (with_reducible refine Kd.C_alloc ?_ _) | (with_reducible refine Kd.C_drewN ?_ _) | (with_reducible refine Kd.C_drew ?_))); (case side2 => exact (Kd.R_reads' HO_150002.out).2.1); (case side3 => repeat (first | exact (Kd.C_below HR1_6.out HB.out) | (with_reducible refine Kd.C_alloc ?_ _) | (with_reducible refine Kd.C_drewN ?_ _) | (with_reducible refine Kd.C_drew ?_))); (case side4 => exact HC1_6.out); rintro e w' ⟨rfl, ⟨nd, rfl⟩⟩))
       go_meet
       case rel => exact ⟨_, (t150), (by first | rfl | (simp; done) | (simp [*]; done)), H', ⟨by have := HJ5.out; first | omega | exact Nat.le_refl _⟩, ⟨vx_ HO_130000⟩, ⟨rx_ HO_150002⟩, ⟨bx_ BK129⟩, ⟨bx_ BK130⟩, ⟨bx_ BK131⟩, ⟨bx_ BK132⟩, ⟨bx_ BK149⟩, ⟨hx_ HB⟩⟩
      ·replace c41 := Bool.eq_false_iff.mpr c41
       subst c41
       have H1 : (coord_begins.j1 kj5 false false l0_0 a1_0 a1_1 a1_2 a1_3 l1_4 a1_5 l1_6) = some (r1, r2, r3, r4, r5, r6) := by rw [if_neg (show ¬ (false = true) by decide)] at H; exact H
       clear H
       have H := H1
       clear H1
       have H' := am_ H
       clear H
       go_wp2
       go_meet
       case rel => exact ⟨_, (false), (by first | rfl | (simp; done) | (simp [*]; done)), H', ⟨by have := HJ5.out; first | omega | exact Nat.le_refl _⟩, ⟨vx_ HO_130000⟩, ⟨rx_ HO_150002⟩, ⟨bx_ BK129⟩, ⟨bx_ BK130⟩, ⟨bx_ BK131⟩, ⟨bx_ BK132⟩, ⟨bx_ BK149⟩, ⟨hx_ HB⟩⟩
     case rest =>
      clear HC40
      try clear c1
      try clear c2
      try clear p2
      try clear c3
      try clear c4
      try clear c5
      try clear c11
      try clear c12
      try clear c13
      try clear c14
      try clear c15
      try clear c16
      try clear c17
      try clear c20
      try clear c21
      try clear c22
      try clear c23
      try clear c26
      try clear c27
      try clear c28
      try clear c29
      try clear c30
      try clear c32
      try clear c41
      try clear c43
      try clear c44
      try clear c45
      try clear c46
      try clear c48
      try clear c49
      try clear c50
      try clear hcz14_0
      try clear hcz14_1
      try clear hcz14_2
      try clear hcz14_3
      try clear hcz14_4
      try clear hcz14_5
      try clear hcz14_6
      try clear hcz17_0
      try clear hcz24_0
      try clear hcz24_1
      try clear hcz24_2
      try clear hcz24_3
      try clear hcz31_0
      try clear hcz31_1
      try clear hcz31_2
      try clear hcz31_3
      try clear hcz47_0
      try clear hcz47_1
      try clear hcz47_2
      try clear hcz47_3
      try clear hcz51_0
      try clear hcz51_1
      try clear hcz51_2
      try clear hcz51_3
      try clear hcz51_4
      try clear hcz51_5
      try clear hcz51_6
      try clear hfz14_0
      try clear hfz14_1
      try clear hfz14_2
      try clear hfz14_3
      try clear hfz14_4
      try clear hfz14_5
      try clear hfz14_6
      try clear hfz17_0
      try clear hfz24_0
      try clear hfz24_1
      try clear hfz24_2
      try clear hfz24_3
      try clear hfz31_0
      try clear hfz31_1
      try clear hfz31_2
      try clear hfz31_3
      try clear hfz47_0
      try clear hfz47_1
      try clear hfz47_2
      try clear hfz47_3
      try clear hfz51_0
      try clear hfz51_1
      try clear hfz51_2
      try clear hfz51_3
      try clear hfz51_4
      try clear hfz51_5
      try clear hfz51_6
      try clear p2
      obtain ⟨kq, x35_39, rfl, HA, HJ39, HO_130000, HO_150002, BK129, BK130, BK131, BK132, BK149, HB⟩ := hcut
      cases kq with
      | zero => exact absurd HA.out (by simp [coord_begins.j1])
      | succ kj39 =>
       have H := HA.out
       clear HA
       simp only [coord_begins.j1] at H
       by_cases c52 : x35_39 = true
       ·subst c52
        have H1 : ((coord_no.f l0_0 0).bind fun bt151 => (some (bt151.1, bt151.2.1, bt151.2.2.1, bt151.2.2.2.1, bt151.2.2.2.2.1, bt151.2.2.2.2.2))) = some (r1, r2, r3, r4, r5, r6) := by rw [if_pos rfl] at H; exact H
        clear H
        have H := H1
        clear H1
        replace H := Option.bind_eq_some_iff.mp H
        obtain ⟨⟨t151, t154, t155, t156, t157, t158⟩, A530, H⟩ := H
        replace H : (some (t151, t154, t155, t156, t157, t158)) = some (r1, r2, r3, r4, r5, r6) := H
        have A53 := am_ A530
        clear A530
        simp only [Option.some.injEq, Prod.mk.injEq] at H
        obtain ⟨rfl, rfl, rfl, rfl, rfl, rfl⟩ := H
        have hnb54 := NB129_130.out
        have hnc54 := NB130_129.out
        have hnb55 := NB129_131.out
        have hnc55 := NB131_129.out
        have hnb56 := NB129_132.out
        have hnc56 := NB132_129.out
        have hnb57 := NB129_149.out
        have hnc57 := NB149_129.out
        have hcz58_0 : wc.cell? ⟨gb129, 0, none⟩ = some (.slice A0_0 l0_0.length c0_0) := (blk_cell BK129.out 0).trans rfl
        have hfz58_0 := blk_frozen BK129.out 0
        go_wp2_with (first | ((with_reducible refine gate_callee (f := 19) rfl ?_); refine goesL_ (some 45) rfl rfl Try.func19 (by kernel_rfl) rfl #[.agg #[.slice A0_0 l0_0.length c0_0], .int .i64 0] rfl (by (try simp only [List.map_toArray, List.map_cons, List.map_nil]); first | done | rfl | (simp only [List.length_drop, List.length_take]; rfl)) ?_; (with_reducible refine (coord_no.calls (fun k_ => ((P0_0_ k_ ∨ w.heap.size ≤ k_) ∧ (some k_ ≠ (.slice Ao25 t144.length co25 : Value).ownBlock ∧ (k_ ≠ gb129 ∧ (k_ ≠ gb130 ∧ (k_ ≠ gb131 ∧ (k_ ≠ gb132 ∧ k_ ≠ gb149))))))) _ _ l0_0 0 t151 t154 t155 t156 t157 t158 _ ?side1 A53.out).mono ?_); (case side1 => exact HO_130000.out); rintro e w59 ⟨v152, rfl, ho0, hb⟩; refine ⟨_, rfl, ?_⟩; have n0_ := am_ (Kd.V_below (vx_ HO_130000) hb); have n1_ := am_ (Kd.R_below (rx_ HO_150002) hb); have n2_ := am_ (Kd.V_lower (Kd.V_mono (ok' := fun k_ => (P0_0_ k_ ∨ w.heap.size ≤ k_) ∧ some k_ ≠ (.slice Ao25 t144.length co25 : Value).ownBlock ∧ k_ ≠ gb129 ∧ k_ ≠ gb130 ∧ k_ ≠ gb131 ∧ k_ ≠ gb132 ∧ k_ ≠ gb149) ho0 (fun k_ hk_ => ⟨Or.elim hk_ (fun hs_ => hs_.1) (fun hn_ => (.inr (Nat.le_trans (below_size (hx_ HB)) hn_))), Or.elim hk_ (fun hs_ => hs_.2.1) (fun hn_ => (Kd.fresh' (Kd.R_lt (rx_ HO_150002)) k_ hn_)), Or.elim hk_ (fun hs_ => hs_.2.2.1) (fun hn_ => (Kd.freshB (g := gb129) (o := .cells #[.slice A0_0 l0_0.length c0_0] 26 (0, 0)) (bx_ BK129) k_ hn_)), Or.elim hk_ (fun hs_ => hs_.2.2.2.1) (fun hn_ => (Kd.freshB (g := gb130) (o := .cells #[.int .i64 a1_0, .int .u64 a1_1, .int .u64 a1_2, .string a1_3, .slice A1_4 l1_4.length c1_4, .bool a1_5, .slice A1_6 l1_6.length c1_6] 38 (0, 0)) (bx_ BK130) k_ hn_)), Or.elim hk_ (fun hs_ => hs_.2.2.2.2.1) (fun hn_ => (Kd.freshB (g := gb131) (o := .cells #[.slice none 0 0] 26 (0, 0)) (bx_ BK131) k_ hn_)), Or.elim hk_ (fun hs_ => hs_.2.2.2.2.2.1) (fun hn_ => (Kd.freshB (g := gb132) (o := .cells #[.int .i64 0, .string (⟨#[]⟩ : ByteArray), .int .u64 0, .bool false, .bool false] 30 (0, 0)) (bx_ BK132) k_ hn_)), Or.elim hk_ (fun hs_ => hs_.2.2.2.2.2.2) (fun hn_ => (Kd.freshB (g := gb149) (o := .cells #[.int .u64 t142, .int .u64 t143, .slice Ao25 t144.length co25, .int .i64 t147] 42 (0, 0)) (bx_ BK149) k_ hn_))⟩)) (below_size (hx_ HB))); have n3_ := am_ (blk_below (g := gb129) (o := .cells #[.slice A0_0 l0_0.length c0_0] 26 (0, 0)) (bx_ BK129) hb); have n4_ := am_ (blk_below (g := gb130) (o := .cells #[.int .i64 a1_0, .int .u64 a1_1, .int .u64 a1_2, .string a1_3, .slice A1_4 l1_4.length c1_4, .bool a1_5, .slice A1_6 l1_6.length c1_6] 38 (0, 0)) (bx_ BK130) hb); have n5_ := am_ (blk_below (g := gb131) (o := .cells #[.slice none 0 0] 26 (0, 0)) (bx_ BK131) hb); have n6_ := am_ (blk_below (g := gb132) (o := .cells #[.int .i64 0, .string (⟨#[]⟩ : ByteArray), .int .u64 0, .bool false, .bool false] 30 (0, 0)) (bx_ BK132) hb); have n7_ := am_ (blk_below (g := gb149) (o := .cells #[.int .u64 t142, .int .u64 t143, .slice Ao25 t144.length co25, .int .i64 t147] 42 (0, 0)) (bx_ BK149) hb); have n8_ := am_ (below_step (hx_ HB) hb); clear HO_130000; clear HO_150002; clear BK129; clear BK130; clear BK131; clear BK132; clear BK149; clear HB; have HO_130000 := n0_; have HO_150002 := n1_; have HO153 := n2_; have BK129 := n3_; have BK130 := n4_; have BK131 := n5_; have BK132 := n6_; have BK149 := n7_; have HB := n8_; clear n0_ n1_ n2_ n3_ n4_ n5_ n6_ n7_ n8_; (try clear hb); (try clear hb2); (try clear hk); (try clear hi); (try clear ho0); obtain ⟨Ao60, co60, eo60⟩ := Kd.V_slice HO153.out; subst eo60; have hnb61 := NB131_130.out; have hnc61 := NB130_131.out; have hnb62 := NB131_132.out; have hnc62 := NB132_131.out; have hnb63 := NB131_149.out; have hnc63 := NB149_131.out; have hcz64_0 : w59.cell? ⟨gb131, 0, none⟩ = some (.slice none 0 0) := (blk_cell BK131.out 0).trans rfl; have hfz64_0 := blk_frozen BK131.out 0; have hnb65 := NB132_130.out; have hnc65 := NB130_132.out; have hnb66 := NB132_149.out; have hnc66 := NB149_132.out; have hcz67_0 : w59.cell? ⟨gb132, 0, none⟩ = some (.int .i64 0) := (blk_cell BK132.out 0).trans rfl; have hcz67_1 : w59.cell? ⟨gb132, 1, none⟩ = some (.string (⟨#[]⟩ : ByteArray)) := (blk_cell BK132.out 1).trans rfl; have hcz67_2 : w59.cell? ⟨gb132, 2, none⟩ = some (.int .u64 0) := (blk_cell BK132.out 2).trans rfl; have hcz67_3 : w59.cell? ⟨gb132, 3, none⟩ = some (.bool false) := (blk_cell BK132.out 3).trans rfl; have hcz67_4 : w59.cell? ⟨gb132, 4, none⟩ = some (.bool false) := (blk_cell BK132.out 4).trans rfl; have hfz67_0 := blk_frozen BK132.out 0; have hfz67_1 := blk_frozen BK132.out 1; have hfz67_2 := blk_frozen BK132.out 2; have hfz67_3 := blk_frozen BK132.out 3; have hfz67_4 := blk_frozen BK132.out 4))
        refine bodyPost_ret (results_cc rfl _ _ gb131 gb132 26 30 #[.slice Ao60 t151.length co60] #[.int .i64 t154, .string t155, .int .u64 t156, .bool t157, .bool t158] (0, 0) (0, 0) _ _ rfl (by (with_reducible repeat (first | refine blk_drewN ?_ _ | refine blk_drew ?_ | refine blk_alloc ?_ _)); refine blk_far ?_ NB131_132.out _; (with_reducible repeat (first | refine blk_drewN ?_ _ | refine blk_drew ?_ | refine blk_alloc ?_ _)); refine blk_far ?_ NB131_132.out _; (with_reducible repeat (first | refine blk_drewN ?_ _ | refine blk_drew ?_ | refine blk_alloc ?_ _)); refine blk_far ?_ NB131_132.out _; (with_reducible repeat (first | refine blk_drewN ?_ _ | refine blk_drew ?_ | refine blk_alloc ?_ _)); refine blk_far ?_ NB131_132.out _; (with_reducible repeat (first | refine blk_drewN ?_ _ | refine blk_drew ?_ | refine blk_alloc ?_ _)); refine blk_far ?_ NB131_132.out _; (with_reducible repeat (first | refine blk_drewN ?_ _ | refine blk_drew ?_ | refine blk_alloc ?_ _)); refine blk_put (cs := #[.slice none 0 0]) ?_ 0 _ rfl; (with_reducible repeat (first | refine blk_drewN ?_ _ | refine blk_drew ?_ | refine blk_alloc ?_ _)); exact BK131.out) Try.underlying26 rfl (by kernel_rfl) rfl (by (with_reducible repeat (first | refine blk_drewN ?_ _ | refine blk_drew ?_ | refine blk_alloc ?_ _)); refine blk_put (cs := #[.int .i64 t154, .string t155, .int .u64 t156, .bool t157, .bool false]) ?_ 4 _ rfl; (with_reducible repeat (first | refine blk_drewN ?_ _ | refine blk_drew ?_ | refine blk_alloc ?_ _)); refine blk_put (cs := #[.int .i64 t154, .string t155, .int .u64 t156, .bool false, .bool false]) ?_ 3 _ rfl; (with_reducible repeat (first | refine blk_drewN ?_ _ | refine blk_drew ?_ | refine blk_alloc ?_ _)); refine blk_put (cs := #[.int .i64 t154, .string t155, .int .u64 0, .bool false, .bool false]) ?_ 2 _ rfl; (with_reducible repeat (first | refine blk_drewN ?_ _ | refine blk_drew ?_ | refine blk_alloc ?_ _)); refine blk_put (cs := #[.int .i64 t154, .string (⟨#[]⟩ : ByteArray), .int .u64 0, .bool false, .bool false]) ?_ 1 _ rfl; (with_reducible repeat (first | refine blk_drewN ?_ _ | refine blk_drew ?_ | refine blk_alloc ?_ _)); refine blk_put (cs := #[.int .i64 0, .string (⟨#[]⟩ : ByteArray), .int .u64 0, .bool false, .bool false]) ?_ 0 _ rfl; (with_reducible repeat (first | refine blk_drewN ?_ _ | refine blk_drew ?_ | refine blk_alloc ?_ _)); refine blk_far ?_ NB132_131.out _; (with_reducible repeat (first | refine blk_drewN ?_ _ | refine blk_drew ?_ | refine blk_alloc ?_ _)); exact BK132.out) Try.underlying30 rfl (by kernel_rfl)) rfl ?_
        exact ⟨_, by first | rfl | (simp [errW_none, errW_some] <;> rfl) | (simp [*, errW_none, errW_some] <;> rfl), by (with_reducible repeat (first | apply Kd.V_alloc | apply Kd.V_drewN | apply Kd.V_drew)); exact Kd.V_mono (Kd.V_far (p := ⟨gb132, 4, none⟩) (Kd.V_far (p := ⟨gb132, 3, none⟩) (Kd.V_far (p := ⟨gb132, 2, none⟩) (Kd.V_far (p := ⟨gb132, 1, none⟩) (Kd.V_far (p := ⟨gb132, 0, none⟩) (Kd.V_far (p := ⟨gb131, 0, none⟩) (Kd.V_mono (Kd.V_mono HO153.out (fun k_ hk => (⟨hk, hk.2.2.2.2.1⟩ : _ ∧ k_ ≠ gb131))) (fun k_ hk => (⟨hk, hk.1.2.2.2.2.2.1⟩ : _ ∧ k_ ≠ gb132))) (fun _ hk => hk.1.2) (.slice Ao60 t151.length co60)) (fun _ hk => hk.2) (.int .i64 t154)) (fun _ hk => hk.2) (.string t155)) (fun _ hk => hk.2) (.int .u64 t156)) (fun _ hk => hk.2) (.bool t157)) (fun _ hk => hk.2) (.bool t158)) (fun _ hk => hk.1.1.1), hx_ HB⟩
       ·replace c52 := Bool.eq_false_iff.mpr c52
        subst c52
        have H1 : (if t148 = true then ((coord_no.f l0_0 8).bind fun bt159 => (some (bt159.1, bt159.2.1, bt159.2.2.1, bt159.2.2.2.1, bt159.2.2.2.2.1, bt159.2.2.2.2.2))) else ((cloneU.f l1_6).bind fun t167 => ((coord_with.f l0_0 a1_1 a1_2 t167 0).bind fun bt170 => (some (bt170.1, bt170.2.1, bt170.2.2.1, bt170.2.2.2.1, bt170.2.2.2.2.1, bt170.2.2.2.2.2))))) = some (r1, r2, r3, r4, r5, r6) := by rw [if_neg (show ¬ (false = true) by decide)] at H; exact H
        clear H
        have H := H1
        clear H1
        by_cases c68 : t148 = true
        ·subst c68
         have H1 : ((coord_no.f l0_0 8).bind fun bt159 => (some (bt159.1, bt159.2.1, bt159.2.2.1, bt159.2.2.2.1, bt159.2.2.2.2.1, bt159.2.2.2.2.2))) = some (r1, r2, r3, r4, r5, r6) := by rw [if_pos rfl] at H; exact H
         clear H
         have H := H1
         clear H1
         replace H := Option.bind_eq_some_iff.mp H
         obtain ⟨⟨t159, t162, t163, t164, t165, t166⟩, A690, H⟩ := H
         replace H : (some (t159, t162, t163, t164, t165, t166)) = some (r1, r2, r3, r4, r5, r6) := H
         have A69 := am_ A690
         clear A690
         simp only [Option.some.injEq, Prod.mk.injEq] at H
         obtain ⟨rfl, rfl, rfl, rfl, rfl, rfl⟩ := H
         have hnb70 := NB129_130.out
         have hnc70 := NB130_129.out
         have hnb71 := NB129_131.out
         have hnc71 := NB131_129.out
         have hnb72 := NB129_132.out
         have hnc72 := NB132_129.out
         have hnb73 := NB129_149.out
         have hnc73 := NB149_129.out
         have hcz74_0 : wc.cell? ⟨gb129, 0, none⟩ = some (.slice A0_0 l0_0.length c0_0) := (blk_cell BK129.out 0).trans rfl
         have hfz74_0 := blk_frozen BK129.out 0
         go_wp2_with (first | ((with_reducible refine gate_callee (f := 19) rfl ?_); refine goesL_ (some 51) rfl rfl Try.func19 (by kernel_rfl) rfl #[.agg #[.slice A0_0 l0_0.length c0_0], .int .i64 8] rfl (by (try simp only [List.map_toArray, List.map_cons, List.map_nil]); first | done | rfl | (simp only [List.length_drop, List.length_take]; rfl)) ?_; (with_reducible refine (coord_no.calls (fun k_ => ((P0_0_ k_ ∨ w.heap.size ≤ k_) ∧ (some k_ ≠ (.slice Ao25 t144.length co25 : Value).ownBlock ∧ (k_ ≠ gb129 ∧ (k_ ≠ gb130 ∧ (k_ ≠ gb131 ∧ (k_ ≠ gb132 ∧ k_ ≠ gb149))))))) _ _ l0_0 8 t159 t162 t163 t164 t165 t166 _ ?side1 A69.out).mono ?_); (case side1 => exact HO_130000.out); rintro e w75 ⟨v160, rfl, ho0, hb⟩; refine ⟨_, rfl, ?_⟩; have n0_ := am_ (Kd.V_below (vx_ HO_130000) hb); have n1_ := am_ (Kd.R_below (rx_ HO_150002) hb); have n2_ := am_ (Kd.V_lower (Kd.V_mono (ok' := fun k_ => (P0_0_ k_ ∨ w.heap.size ≤ k_) ∧ some k_ ≠ (.slice Ao25 t144.length co25 : Value).ownBlock ∧ k_ ≠ gb129 ∧ k_ ≠ gb130 ∧ k_ ≠ gb131 ∧ k_ ≠ gb132 ∧ k_ ≠ gb149) ho0 (fun k_ hk_ => ⟨Or.elim hk_ (fun hs_ => hs_.1) (fun hn_ => (.inr (Nat.le_trans (below_size (hx_ HB)) hn_))), Or.elim hk_ (fun hs_ => hs_.2.1) (fun hn_ => (Kd.fresh' (Kd.R_lt (rx_ HO_150002)) k_ hn_)), Or.elim hk_ (fun hs_ => hs_.2.2.1) (fun hn_ => (Kd.freshB (g := gb129) (o := .cells #[.slice A0_0 l0_0.length c0_0] 26 (0, 0)) (bx_ BK129) k_ hn_)), Or.elim hk_ (fun hs_ => hs_.2.2.2.1) (fun hn_ => (Kd.freshB (g := gb130) (o := .cells #[.int .i64 a1_0, .int .u64 a1_1, .int .u64 a1_2, .string a1_3, .slice A1_4 l1_4.length c1_4, .bool a1_5, .slice A1_6 l1_6.length c1_6] 38 (0, 0)) (bx_ BK130) k_ hn_)), Or.elim hk_ (fun hs_ => hs_.2.2.2.2.1) (fun hn_ => (Kd.freshB (g := gb131) (o := .cells #[.slice none 0 0] 26 (0, 0)) (bx_ BK131) k_ hn_)), Or.elim hk_ (fun hs_ => hs_.2.2.2.2.2.1) (fun hn_ => (Kd.freshB (g := gb132) (o := .cells #[.int .i64 0, .string (⟨#[]⟩ : ByteArray), .int .u64 0, .bool false, .bool false] 30 (0, 0)) (bx_ BK132) k_ hn_)), Or.elim hk_ (fun hs_ => hs_.2.2.2.2.2.2) (fun hn_ => (Kd.freshB (g := gb149) (o := .cells #[.int .u64 t142, .int .u64 t143, .slice Ao25 t144.length co25, .int .i64 t147] 42 (0, 0)) (bx_ BK149) k_ hn_))⟩)) (below_size (hx_ HB))); have n3_ := am_ (blk_below (g := gb129) (o := .cells #[.slice A0_0 l0_0.length c0_0] 26 (0, 0)) (bx_ BK129) hb); have n4_ := am_ (blk_below (g := gb130) (o := .cells #[.int .i64 a1_0, .int .u64 a1_1, .int .u64 a1_2, .string a1_3, .slice A1_4 l1_4.length c1_4, .bool a1_5, .slice A1_6 l1_6.length c1_6] 38 (0, 0)) (bx_ BK130) hb); have n5_ := am_ (blk_below (g := gb131) (o := .cells #[.slice none 0 0] 26 (0, 0)) (bx_ BK131) hb); have n6_ := am_ (blk_below (g := gb132) (o := .cells #[.int .i64 0, .string (⟨#[]⟩ : ByteArray), .int .u64 0, .bool false, .bool false] 30 (0, 0)) (bx_ BK132) hb); have n7_ := am_ (blk_below (g := gb149) (o := .cells #[.int .u64 t142, .int .u64 t143, .slice Ao25 t144.length co25, .int .i64 t147] 42 (0, 0)) (bx_ BK149) hb); have n8_ := am_ (below_step (hx_ HB) hb); clear HO_130000; clear HO_150002; clear BK129; clear BK130; clear BK131; clear BK132; clear BK149; clear HB; have HO_130000 := n0_; have HO_150002 := n1_; have HO161 := n2_; have BK129 := n3_; have BK130 := n4_; have BK131 := n5_; have BK132 := n6_; have BK149 := n7_; have HB := n8_; clear n0_ n1_ n2_ n3_ n4_ n5_ n6_ n7_ n8_; (try clear hb); (try clear hb2); (try clear hk); (try clear hi); (try clear ho0); obtain ⟨Ao76, co76, eo76⟩ := Kd.V_slice HO161.out; subst eo76; have hnb77 := NB131_130.out; have hnc77 := NB130_131.out; have hnb78 := NB131_132.out; have hnc78 := NB132_131.out; have hnb79 := NB131_149.out; have hnc79 := NB149_131.out; have hcz80_0 : w75.cell? ⟨gb131, 0, none⟩ = some (.slice none 0 0) := (blk_cell BK131.out 0).trans rfl; have hfz80_0 := blk_frozen BK131.out 0; have hnb81 := NB132_130.out; have hnc81 := NB130_132.out; have hnb82 := NB132_149.out; have hnc82 := NB149_132.out; have hcz83_0 : w75.cell? ⟨gb132, 0, none⟩ = some (.int .i64 0) := (blk_cell BK132.out 0).trans rfl; have hcz83_1 : w75.cell? ⟨gb132, 1, none⟩ = some (.string (⟨#[]⟩ : ByteArray)) := (blk_cell BK132.out 1).trans rfl; have hcz83_2 : w75.cell? ⟨gb132, 2, none⟩ = some (.int .u64 0) := (blk_cell BK132.out 2).trans rfl; have hcz83_3 : w75.cell? ⟨gb132, 3, none⟩ = some (.bool false) := (blk_cell BK132.out 3).trans rfl; have hcz83_4 : w75.cell? ⟨gb132, 4, none⟩ = some (.bool false) := (blk_cell BK132.out 4).trans rfl; have hfz83_0 := blk_frozen BK132.out 0; have hfz83_1 := blk_frozen BK132.out 1; have hfz83_2 := blk_frozen BK132.out 2; have hfz83_3 := blk_frozen BK132.out 3; have hfz83_4 := blk_frozen BK132.out 4))
         refine bodyPost_ret (results_cc rfl _ _ gb131 gb132 26 30 #[.slice Ao76 t159.length co76] #[.int .i64 t162, .string t163, .int .u64 t164, .bool t165, .bool t166] (0, 0) (0, 0) _ _ rfl (by (with_reducible repeat (first | refine blk_drewN ?_ _ | refine blk_drew ?_ | refine blk_alloc ?_ _)); refine blk_far ?_ NB131_132.out _; (with_reducible repeat (first | refine blk_drewN ?_ _ | refine blk_drew ?_ | refine blk_alloc ?_ _)); refine blk_far ?_ NB131_132.out _; (with_reducible repeat (first | refine blk_drewN ?_ _ | refine blk_drew ?_ | refine blk_alloc ?_ _)); refine blk_far ?_ NB131_132.out _; (with_reducible repeat (first | refine blk_drewN ?_ _ | refine blk_drew ?_ | refine blk_alloc ?_ _)); refine blk_far ?_ NB131_132.out _; (with_reducible repeat (first | refine blk_drewN ?_ _ | refine blk_drew ?_ | refine blk_alloc ?_ _)); refine blk_far ?_ NB131_132.out _; (with_reducible repeat (first | refine blk_drewN ?_ _ | refine blk_drew ?_ | refine blk_alloc ?_ _)); refine blk_put (cs := #[.slice none 0 0]) ?_ 0 _ rfl; (with_reducible repeat (first | refine blk_drewN ?_ _ | refine blk_drew ?_ | refine blk_alloc ?_ _)); exact BK131.out) Try.underlying26 rfl (by kernel_rfl) rfl (by (with_reducible repeat (first | refine blk_drewN ?_ _ | refine blk_drew ?_ | refine blk_alloc ?_ _)); refine blk_put (cs := #[.int .i64 t162, .string t163, .int .u64 t164, .bool t165, .bool false]) ?_ 4 _ rfl; (with_reducible repeat (first | refine blk_drewN ?_ _ | refine blk_drew ?_ | refine blk_alloc ?_ _)); refine blk_put (cs := #[.int .i64 t162, .string t163, .int .u64 t164, .bool false, .bool false]) ?_ 3 _ rfl; (with_reducible repeat (first | refine blk_drewN ?_ _ | refine blk_drew ?_ | refine blk_alloc ?_ _)); refine blk_put (cs := #[.int .i64 t162, .string t163, .int .u64 0, .bool false, .bool false]) ?_ 2 _ rfl; (with_reducible repeat (first | refine blk_drewN ?_ _ | refine blk_drew ?_ | refine blk_alloc ?_ _)); refine blk_put (cs := #[.int .i64 t162, .string (⟨#[]⟩ : ByteArray), .int .u64 0, .bool false, .bool false]) ?_ 1 _ rfl; (with_reducible repeat (first | refine blk_drewN ?_ _ | refine blk_drew ?_ | refine blk_alloc ?_ _)); refine blk_put (cs := #[.int .i64 0, .string (⟨#[]⟩ : ByteArray), .int .u64 0, .bool false, .bool false]) ?_ 0 _ rfl; (with_reducible repeat (first | refine blk_drewN ?_ _ | refine blk_drew ?_ | refine blk_alloc ?_ _)); refine blk_far ?_ NB132_131.out _; (with_reducible repeat (first | refine blk_drewN ?_ _ | refine blk_drew ?_ | refine blk_alloc ?_ _)); exact BK132.out) Try.underlying30 rfl (by kernel_rfl)) rfl ?_
         exact ⟨_, by first | rfl | (simp [errW_none, errW_some] <;> rfl) | (simp [*, errW_none, errW_some] <;> rfl), by (with_reducible repeat (first | apply Kd.V_alloc | apply Kd.V_drewN | apply Kd.V_drew)); exact Kd.V_mono (Kd.V_far (p := ⟨gb132, 4, none⟩) (Kd.V_far (p := ⟨gb132, 3, none⟩) (Kd.V_far (p := ⟨gb132, 2, none⟩) (Kd.V_far (p := ⟨gb132, 1, none⟩) (Kd.V_far (p := ⟨gb132, 0, none⟩) (Kd.V_far (p := ⟨gb131, 0, none⟩) (Kd.V_mono (Kd.V_mono HO161.out (fun k_ hk => (⟨hk, hk.2.2.2.2.1⟩ : _ ∧ k_ ≠ gb131))) (fun k_ hk => (⟨hk, hk.1.2.2.2.2.2.1⟩ : _ ∧ k_ ≠ gb132))) (fun _ hk => hk.1.2) (.slice Ao76 t159.length co76)) (fun _ hk => hk.2) (.int .i64 t162)) (fun _ hk => hk.2) (.string t163)) (fun _ hk => hk.2) (.int .u64 t164)) (fun _ hk => hk.2) (.bool t165)) (fun _ hk => hk.2) (.bool t166)) (fun _ hk => hk.1.1.1), hx_ HB⟩
        ·replace c68 := Bool.eq_false_iff.mpr c68
         subst c68
         have H1 : ((cloneU.f l1_6).bind fun t167 => ((coord_with.f l0_0 a1_1 a1_2 t167 0).bind fun bt170 => (some (bt170.1, bt170.2.1, bt170.2.2.1, bt170.2.2.2.1, bt170.2.2.2.2.1, bt170.2.2.2.2.2)))) = some (r1, r2, r3, r4, r5, r6) := by rw [if_neg (show ¬ (false = true) by decide)] at H; exact H
         clear H
         have H := H1
         clear H1
         replace H := Option.bind_eq_some_iff.mp H
         obtain ⟨t167, A840, H⟩ := H
         replace H : ((coord_with.f l0_0 a1_1 a1_2 t167 0).bind fun bt170 => (some (bt170.1, bt170.2.1, bt170.2.2.1, bt170.2.2.2.1, bt170.2.2.2.2.1, bt170.2.2.2.2.2))) = some (r1, r2, r3, r4, r5, r6) := H
         have A84 := am_ A840
         clear A840
         replace H := Option.bind_eq_some_iff.mp H
         obtain ⟨⟨t170, t173, t174, t175, t176, t177⟩, A850, H⟩ := H
         replace H : (some (t170, t173, t174, t175, t176, t177)) = some (r1, r2, r3, r4, r5, r6) := H
         have A85 := am_ A850
         clear A850
         simp only [Option.some.injEq, Prod.mk.injEq] at H
         obtain ⟨rfl, rfl, rfl, rfl, rfl, rfl⟩ := H
         try go_wp2
         have n0_ := am_ (Kd.V_drew HO_130000.out)
         have n1_ := am_ (Kd.R_drew HO_150002.out)
         have n2_ := am_ (blk_drew BK129.out)
         have n3_ := am_ (blk_drew BK130.out)
         have n4_ := am_ (blk_drew BK131.out)
         have n5_ := am_ (blk_drew BK132.out)
         have n6_ := am_ (blk_drew BK149.out)
         have n7_ := am_ (below_drew1 HB.out)
         clear HO_130000
         clear HO_150002
         clear BK129
         clear BK130
         clear BK131
         clear BK132
         clear BK149
         clear HB
         have HO_130000 := n0_
         have HO_150002 := n1_
         have BK129 := n2_
         have BK130 := n3_
         have BK131 := n4_
         have BK132 := n5_
         have BK149 := n6_
         have HB := n7_
         clear n0_ n1_ n2_ n3_ n4_ n5_ n6_ n7_
         refine start_ (n := 12) (S := fun w' => w'.cell? ⟨gb129, 0, none⟩ = some (.slice A0_0 l0_0.length c0_0) ∧ w'.cell? ⟨gb130, 0, none⟩ = some (.int .i64 a1_0) ∧ w'.cell? ⟨gb130, 1, none⟩ = some (.int .u64 a1_1) ∧ w'.cell? ⟨gb130, 2, none⟩ = some (.int .u64 a1_2) ∧ w'.cell? ⟨gb130, 3, none⟩ = some (.string a1_3) ∧ w'.cell? ⟨gb130, 4, none⟩ = some (.slice A1_4 l1_4.length c1_4) ∧ w'.cell? ⟨gb130, 5, none⟩ = some (.bool a1_5) ∧ w'.cell? ⟨gb130, 6, none⟩ = some (.slice A1_6 l1_6.length c1_6)) (ds := []) bN8_ (by kernel_rfl) rfl rfl ⟨(blk_cell BK129.out 0).trans rfl, (blk_cell BK130.out 0).trans rfl, (blk_cell BK130.out 1).trans rfl, (blk_cell BK130.out 2).trans rfl, (blk_cell BK130.out 3).trans rfl, (blk_cell BK130.out 4).trans rfl, (blk_cell BK130.out 5).trans rfl, (blk_cell BK130.out 6).trans rfl⟩ (fun hHeld => ?_); refine with_tabW coord_begins.tab10 coord_begins.bits10 (fun HT_ HW_ => ?_)
         generalize wc.drew = w86 at HO_130000 HO_150002 BK129 BK130 BK131 BK132 BK149 HB hHeld ⊢
         refine pure_ (i := 1) (N := some 55) (v := ?_) (a' := ?_) bN9_ rfl rfl (any_of HT_.out (by kernel_rfl)) (fun _ _ _ h => h) (Or.inl ⟨by rfl, ?_⟩) ?_ ?_; rotate_left; (intro w'; go_simp; with_reducible rfl); rotate_left; (simp only [Act.put, List.setIfInBounds_toArray, List.set_cons_zero, List.set_cons_succ, i64_w, i32_w]; rfl)
         refine pure_ (i := 3) (N := some 57) (v := ?_) (a' := ?_) bN10_ rfl rfl (any_of HT_.out (by kernel_rfl)) (fun _ _ _ h => h) (Or.inl ⟨by rfl, ?_⟩) ?_ ?_; rotate_left; (intro w'; go_simp; with_reducible rfl); rotate_left; (simp only [Act.put, List.setIfInBounds_toArray, List.set_cons_zero, List.set_cons_succ, i64_w, i32_w]; rfl)
         refine take_ (i := 0) (N := some 54) (v := ?_) (a' := ?_) bN11_ rfl rfl (take_ofW HT_.out HW_.out (by kernel_rfl)) (fun _ _ _ h => h) (Or.inl ⟨by rfl, ?_⟩) hHeld ?_ ?_; rotate_left; (rintro w' ⟨s0, s1, s2, s3, s4, s5, s6, s7⟩; go_simp; with_reducible rfl); rotate_left; (simp only [Act.put, List.setIfInBounds_toArray, List.set_cons_zero, List.set_cons_succ, i64_w, i32_w]; rfl)
         refine take_ (i := 2) (N := some 56) (v := ?_) (a' := ?_) bN12_ rfl rfl (take_ofW HT_.out HW_.out (by kernel_rfl)) (fun _ _ _ h => h) (Or.inl ⟨by rfl, ?_⟩) hHeld ?_ ?_; rotate_left; (rintro w' ⟨s0, s1, s2, s3, s4, s5, s6, s7⟩; go_simp; with_reducible rfl); rotate_left; (simp only [Act.put, List.setIfInBounds_toArray, List.set_cons_zero, List.set_cons_succ, i64_w, i32_w]; rfl)
         refine take_ (i := 4) (N := some 58) (v := ?_) (a' := ?_) bN13_ rfl rfl (take_ofW HT_.out HW_.out (by kernel_rfl)) (fun _ _ _ h => h) (Or.inl ⟨by rfl, ?_⟩) hHeld ?_ ?_; rotate_left; (rintro w' ⟨s0, s1, s2, s3, s4, s5, s6, s7⟩; go_simp; with_reducible rfl); rotate_left; (simp only [Act.put, List.setIfInBounds_toArray, List.set_cons_zero, List.set_cons_succ, i64_w, i32_w]; rfl)
         refine one_ (i := 5) (N := some 59) bN14_ rfl rfl (one_of HT_.out (by kernel_rfl)) (by decide) (fun K hK => ?_)
         refine goes_ Try.func23 (by kernel_rfl) rfl #[.slice A1_6 l1_6.length c1_6] (by rfl) rfl rfl (by (try simp only [List.map_toArray, List.map_cons, List.map_nil]); first | done | rfl | (simp only [List.length_drop, List.length_take]; rfl)) ?_
         with_reducible refine (cloneU.calls _ _ l1_6 t167 _ ?side1 ?side2 A84.out).mono ?_
         (case side1 => repeat (first | exact (Kd.C_below HR1_6.out HB.out) | (with_reducible refine Kd.C_alloc ?_ _) | (with_reducible refine Kd.C_drewN ?_ _) | (with_reducible refine Kd.C_drew ?_)))
         (case side2 => exact HC1_6.out)
         rintro e w87 ⟨v168, rfl, ho0, hb⟩
         refine ⟨_, rfl, ?_⟩
         have n0_ := am_ (Kd.V_elder' (vx_ HO_130000) (Kd.R_base ho0) hb)
         have n1_ := am_ (Kd.R_elder' (rx_ HO_150002) (Kd.R_base ho0) hb)
         have n2_ := am_ (Kd.R_lower (Kd.R_new' (Kd.R_newM (M := fun k_ => (w.heap.size ≤ k_)) ho0 (below_size (hx_ HB)) (fun k_ h_ => h_)) (Kd.R_lt (rx_ HO_150002))) (below_size (hx_ HB)))
         have n3_ := am_ (blk_below (g := gb129) (o := .cells #[.slice A0_0 l0_0.length c0_0] 26 (0, 0)) (bx_ BK129) hb)
         have n4_ := am_ (blk_below (g := gb130) (o := .cells #[.int .i64 a1_0, .int .u64 a1_1, .int .u64 a1_2, .string a1_3, .slice A1_4 l1_4.length c1_4, .bool a1_5, .slice A1_6 l1_6.length c1_6] 38 (0, 0)) (bx_ BK130) hb)
         have n5_ := am_ (blk_below (g := gb131) (o := .cells #[.slice none 0 0] 26 (0, 0)) (bx_ BK131) hb)
         have n6_ := am_ (blk_below (g := gb132) (o := .cells #[.int .i64 0, .string (⟨#[]⟩ : ByteArray), .int .u64 0, .bool false, .bool false] 30 (0, 0)) (bx_ BK132) hb)
         have n7_ := am_ (blk_below (g := gb149) (o := .cells #[.int .u64 t142, .int .u64 t143, .slice Ao25 t144.length co25, .int .i64 t147] 42 (0, 0)) (bx_ BK149) hb)
         have n8_ := am_ (below_step (hx_ HB) hb)
         clear HO_130000
         clear HO_150002
         clear BK129
         clear BK130
         clear BK131
         clear BK132
         clear BK149
         clear HB
         have HO_130000 := n0_
         have HO_150002 := n1_
         have HO169 := n2_
         have BK129 := n3_
         have BK130 := n4_
         have BK131 := n5_
         have BK132 := n6_
         have BK149 := n7_
         have HB := n8_
         clear n0_ n1_ n2_ n3_ n4_ n5_ n6_ n7_ n8_
         (try clear hb)
         (try clear hb2)
         (try clear hk)
         (try clear hi)
         (try clear ho0)
         obtain ⟨Ao88, co88, eo88⟩ := Kd.R_slice HO169.out
         (first | subst eo88 | (injection eo88 with f1_ f2_ f3_; have f4_ := f1_.symm; have f5_ := f3_.symm; clear f1_ f2_ f3_; subst f4_; subst f5_))
         refine hK.out _ _ ⟨(blk_cell BK129.out 0).trans rfl, (blk_cell BK130.out 0).trans rfl, (blk_cell BK130.out 1).trans rfl, (blk_cell BK130.out 2).trans rfl, (blk_cell BK130.out 3).trans rfl, (blk_cell BK130.out 4).trans rfl, (blk_cell BK130.out 5).trans rfl, (blk_cell BK130.out 6).trans rfl⟩ (fun hHeld => ?_)
         clear hK K
         refine norm_ (a' := ?_) ?_ ?_
         rotate_left
         ·show Act.put _ (some 59) _ = _
          simp only [Act.put, List.setIfInBounds_toArray, List.set_cons_zero, List.set_cons_succ, i64_w, i32_w]
          rfl
         refine pure_ (i := 6) (N := some 60) (v := ?_) (a' := ?_) bN15_ rfl rfl (any_of HT_.out (by kernel_rfl)) (fun _ _ _ h => h) (Or.inl ⟨by rfl, ?_⟩) ?_ ?_; rotate_left; (intro w'; go_simp; with_reducible rfl); rotate_left; (simp only [Act.put, List.setIfInBounds_toArray, List.set_cons_zero, List.set_cons_succ, i64_w, i32_w]; rfl)
         refine one_ (i := 7) (N := some 61) bN16_ rfl rfl (one_of HT_.out (by kernel_rfl)) (by decide) (fun K hK => ?_)
         refine goes_ Try.func30 (by kernel_rfl) rfl #[.agg #[.slice A0_0 l0_0.length c0_0], .agg #[.int .u64 a1_1, .int .u64 a1_2, .slice Ao88 t167.length co88, .int .i64 0]] (by rfl) rfl rfl (by (try simp only [List.map_toArray, List.map_cons, List.map_nil]); first | done | rfl | (simp only [List.length_drop, List.length_take]; rfl)) ?_
         with_reducible refine (coord_with.calls (fun k_ => (((P0_0_ k_ ∨ w.heap.size ≤ k_) ∧ (some k_ ≠ (.slice Ao25 t144.length co25 : Value).ownBlock ∧ (k_ ≠ gb129 ∧ (k_ ≠ gb130 ∧ (k_ ≠ gb131 ∧ (k_ ≠ gb132 ∧ k_ ≠ gb149)))))) ∧ some k_ ≠ (.slice Ao88 t167.length co88 : Value).ownBlock)) _ _ l0_0 a1_1 a1_2 (fun k_ => some k_ = (.slice Ao88 t167.length co88 : Value).ownBlock) _ _ t167 0 t170 t173 t174 t175 t176 t177 _ ?side1 ?side2 A85.out).mono ?_
         (case side1 => exact HO_130000.out)
         (case side2 => exact Kd.R_V (Kd.R_tight rfl (Kd.R_types (Kd.R_types (Kd.R_types (Kd.R_types (Kd.R_types (HO169.out) BK129.out (by decide)) BK130.out (by decide)) BK131.out (by decide)) BK132.out (by decide)) BK149.out (by decide))))
         rintro e w89 ⟨v171, rfl, ho0, hb⟩
         refine ⟨_, rfl, ?_⟩
         have n0_ := am_ (Kd.V_below (vx_ HO_130000) hb)
         have n1_ := am_ (Kd.R_below (rx_ HO_150002) hb)
         have n2_ := am_ (Kd.R_below (rx_ HO169) hb)
         have n3_ := am_ (Kd.V_lower (Kd.V_mono (ok' := fun k_ => (P0_0_ k_ ∨ w.heap.size ≤ k_) ∧ some k_ ≠ (.slice Ao25 t144.length co25 : Value).ownBlock ∧ k_ ≠ gb129 ∧ k_ ≠ gb130 ∧ k_ ≠ gb131 ∧ k_ ≠ gb132 ∧ k_ ≠ gb149) ho0 (fun k_ hk_ => ⟨Or.elim hk_ (fun hs_ => Or.elim hs_ (fun hs_ => hs_.1.1) (fun hs_ => (.inr (((Kd.R_types (Kd.R_types (Kd.R_types (Kd.R_types (Kd.R_types (HO169.out) BK129.out (by decide)) BK130.out (by decide)) BK131.out (by decide)) BK132.out (by decide)) BK149.out (by decide)).1 k_ hs_.symm).1.1.1.1.1.1.1)))) (fun hn_ => (.inr (Nat.le_trans (below_size (hx_ HB)) hn_))), Or.elim hk_ (fun hs_ => Or.elim hs_ (fun hs_ => hs_.1.2.1) (fun hs_ => ((Kd.R_types (Kd.R_types (Kd.R_types (Kd.R_types (Kd.R_types (HO169.out) BK129.out (by decide)) BK130.out (by decide)) BK131.out (by decide)) BK132.out (by decide)) BK149.out (by decide)).1 k_ hs_.symm).1.1.1.1.1.2)) (fun hn_ => (Kd.fresh' (Kd.R_lt (rx_ HO_150002)) k_ hn_)), Or.elim hk_ (fun hs_ => Or.elim hs_ (fun hs_ => hs_.1.2.2.1) (fun hs_ => ((Kd.R_types (Kd.R_types (Kd.R_types (Kd.R_types (Kd.R_types (HO169.out) BK129.out (by decide)) BK130.out (by decide)) BK131.out (by decide)) BK132.out (by decide)) BK149.out (by decide)).1 k_ hs_.symm).1.1.1.1.2)) (fun hn_ => (Kd.freshB (g := gb129) (o := .cells #[.slice A0_0 l0_0.length c0_0] 26 (0, 0)) (bx_ BK129) k_ hn_)), Or.elim hk_ (fun hs_ => Or.elim hs_ (fun hs_ => hs_.1.2.2.2.1) (fun hs_ => ((Kd.R_types (Kd.R_types (Kd.R_types (Kd.R_types (Kd.R_types (HO169.out) BK129.out (by decide)) BK130.out (by decide)) BK131.out (by decide)) BK132.out (by decide)) BK149.out (by decide)).1 k_ hs_.symm).1.1.1.2)) (fun hn_ => (Kd.freshB (g := gb130) (o := .cells #[.int .i64 a1_0, .int .u64 a1_1, .int .u64 a1_2, .string a1_3, .slice A1_4 l1_4.length c1_4, .bool a1_5, .slice A1_6 l1_6.length c1_6] 38 (0, 0)) (bx_ BK130) k_ hn_)), Or.elim hk_ (fun hs_ => Or.elim hs_ (fun hs_ => hs_.1.2.2.2.2.1) (fun hs_ => ((Kd.R_types (Kd.R_types (Kd.R_types (Kd.R_types (Kd.R_types (HO169.out) BK129.out (by decide)) BK130.out (by decide)) BK131.out (by decide)) BK132.out (by decide)) BK149.out (by decide)).1 k_ hs_.symm).1.1.2)) (fun hn_ => (Kd.freshB (g := gb131) (o := .cells #[.slice none 0 0] 26 (0, 0)) (bx_ BK131) k_ hn_)), Or.elim hk_ (fun hs_ => Or.elim hs_ (fun hs_ => hs_.1.2.2.2.2.2.1) (fun hs_ => ((Kd.R_types (Kd.R_types (Kd.R_types (Kd.R_types (Kd.R_types (HO169.out) BK129.out (by decide)) BK130.out (by decide)) BK131.out (by decide)) BK132.out (by decide)) BK149.out (by decide)).1 k_ hs_.symm).1.2)) (fun hn_ => (Kd.freshB (g := gb132) (o := .cells #[.int .i64 0, .string (⟨#[]⟩ : ByteArray), .int .u64 0, .bool false, .bool false] 30 (0, 0)) (bx_ BK132) k_ hn_)), Or.elim hk_ (fun hs_ => Or.elim hs_ (fun hs_ => hs_.1.2.2.2.2.2.2) (fun hs_ => ((Kd.R_types (Kd.R_types (Kd.R_types (Kd.R_types (Kd.R_types (HO169.out) BK129.out (by decide)) BK130.out (by decide)) BK131.out (by decide)) BK132.out (by decide)) BK149.out (by decide)).1 k_ hs_.symm).2)) (fun hn_ => (Kd.freshB (g := gb149) (o := .cells #[.int .u64 t142, .int .u64 t143, .slice Ao25 t144.length co25, .int .i64 t147] 42 (0, 0)) (bx_ BK149) k_ hn_))⟩)) (below_size (hx_ HB)))
         have n4_ := am_ (blk_below (g := gb129) (o := .cells #[.slice A0_0 l0_0.length c0_0] 26 (0, 0)) (bx_ BK129) hb)
         have n5_ := am_ (blk_below (g := gb130) (o := .cells #[.int .i64 a1_0, .int .u64 a1_1, .int .u64 a1_2, .string a1_3, .slice A1_4 l1_4.length c1_4, .bool a1_5, .slice A1_6 l1_6.length c1_6] 38 (0, 0)) (bx_ BK130) hb)
         have n6_ := am_ (blk_below (g := gb131) (o := .cells #[.slice none 0 0] 26 (0, 0)) (bx_ BK131) hb)
         have n7_ := am_ (blk_below (g := gb132) (o := .cells #[.int .i64 0, .string (⟨#[]⟩ : ByteArray), .int .u64 0, .bool false, .bool false] 30 (0, 0)) (bx_ BK132) hb)
         have n8_ := am_ (blk_below (g := gb149) (o := .cells #[.int .u64 t142, .int .u64 t143, .slice Ao25 t144.length co25, .int .i64 t147] 42 (0, 0)) (bx_ BK149) hb)
         have n9_ := am_ (below_step (hx_ HB) hb)
         clear HO_130000
         clear HO_150002
         clear HO169
         clear BK129
         clear BK130
         clear BK131
         clear BK132
         clear BK149
         clear HB
         have HO_130000 := n0_
         have HO_150002 := n1_
         have HO169 := n2_
         have HO172 := n3_
         have BK129 := n4_
         have BK130 := n5_
         have BK131 := n6_
         have BK132 := n7_
         have BK149 := n8_
         have HB := n9_
         clear n0_ n1_ n2_ n3_ n4_ n5_ n6_ n7_ n8_ n9_
         (try clear hb)
         (try clear hb2)
         (try clear hk)
         (try clear hi)
         (try clear ho0)
         obtain ⟨Ao90, co90, eo90⟩ := Kd.V_slice HO172.out
         (first | subst eo90 | (injection eo90 with f1_ f2_ f3_; have f4_ := f1_.symm; have f5_ := f3_.symm; clear f1_ f2_ f3_; subst f4_; subst f5_))
         refine hK.out _ _ ⟨(blk_cell BK129.out 0).trans rfl, (blk_cell BK130.out 0).trans rfl, (blk_cell BK130.out 1).trans rfl, (blk_cell BK130.out 2).trans rfl, (blk_cell BK130.out 3).trans rfl, (blk_cell BK130.out 4).trans rfl, (blk_cell BK130.out 5).trans rfl, (blk_cell BK130.out 6).trans rfl⟩ (fun hHeld => ?_)
         clear hK K
         refine norm_ (a' := ?_) ?_ ?_
         rotate_left
         ·show Act.put _ (some 61) _ = _
          simp only [Act.put, List.setIfInBounds_toArray, List.set_cons_zero, List.set_cons_succ, i64_w, i32_w]
          rfl
         refine pure_ (i := 8) (N := some 62) (v := ?_) (a' := ?_) bN17_ rfl rfl (any_of HT_.out (by kernel_rfl)) (fun _ _ _ h => h) (Or.inl ⟨by rfl, ?_⟩) ?_ ?_; rotate_left; (intro w'; go_simp; with_reducible rfl); rotate_left; (simp only [Act.put, List.setIfInBounds_toArray, List.set_cons_zero, List.set_cons_succ, i64_w, i32_w]; rfl)
         refine pure_ (i := 9) (N := some 63) (v := ?_) (a' := ?_) bN18_ rfl rfl (any_of HT_.out (by kernel_rfl)) (fun _ _ _ h => h) (Or.inl ⟨by rfl, ?_⟩) ?_ ?_; rotate_left; (intro w'; go_simp; with_reducible rfl); rotate_left; (simp only [Act.put, List.setIfInBounds_toArray, List.set_cons_zero, List.set_cons_succ, i64_w, i32_w]; rfl)
         refine one_ (i := 10) (N := none) bN19_ rfl rfl (one_of HT_.out (by kernel_rfl)) (by decide) (fun K hK => ?_)
         have hs91 : w89.cell? ⟨gb131, 0, none⟩ = some (.slice none 0 0) := (blk_cell BK131.out 0).trans rfl
         have hfs91 := blk_frozen BK131.out 0
         have hns91_0 := NB129_131.out
         have hns91_1 := NB130_131.out
         have hns91_3 := NB132_131.out
         have hns91_4 := NB149_131.out
         have hms91_0 := NB131_129.out
         have hms91_1 := NB131_130.out
         have hms91_3 := NB131_132.out
         have hms91_4 := NB131_149.out
         refine skip_ (w1 := ?_) (by rfl) rfl ?_ ?_
         rotate_left
         ·go_simp
          rfl
         refine hK.out _ _ ⟨((cell_far (p := ⟨gb131, _, none⟩) NB129_131.out _).trans (hHeld.1)), ((cell_far (p := ⟨gb131, _, none⟩) NB130_131.out _).trans (hHeld.2.1)), ((cell_far (p := ⟨gb131, _, none⟩) NB130_131.out _).trans (hHeld.2.2.1)), ((cell_far (p := ⟨gb131, _, none⟩) NB130_131.out _).trans (hHeld.2.2.2.1)), ((cell_far (p := ⟨gb131, _, none⟩) NB130_131.out _).trans (hHeld.2.2.2.2.1)), ((cell_far (p := ⟨gb131, _, none⟩) NB130_131.out _).trans (hHeld.2.2.2.2.2.1)), ((cell_far (p := ⟨gb131, _, none⟩) NB130_131.out _).trans (hHeld.2.2.2.2.2.2.1)), ((cell_far (p := ⟨gb131, _, none⟩) NB130_131.out _).trans (hHeld.2.2.2.2.2.2.2))⟩ (fun hHeld => ?_)
         clear hK K
         refine one_ (i := 11) (N := none) bN20_ rfl rfl (one_of HT_.out (by kernel_rfl)) (by decide) (fun K hK => ?_)
         have hs92 : w89.cell? ⟨gb132, 0, none⟩ = some (.int .i64 0) := (blk_cell BK132.out 0).trans rfl
         have hfs92 := blk_frozen BK132.out 0
         have hns92_0 := NB129_132.out
         have hns92_1 := NB130_132.out
         have hns92_2 := NB131_132.out
         have hns92_4 := NB149_132.out
         have hms92_0 := NB132_129.out
         have hms92_1 := NB132_130.out
         have hms92_2 := NB132_131.out
         have hms92_4 := NB132_149.out
         have hs93 : w89.cell? ⟨gb132, 1, none⟩ = some (.string (⟨#[]⟩ : ByteArray)) := (blk_cell BK132.out 1).trans rfl
         have hfs93 := blk_frozen BK132.out 1
         have hns93_0 := NB129_132.out
         have hns93_1 := NB130_132.out
         have hns93_2 := NB131_132.out
         have hns93_4 := NB149_132.out
         have hms93_0 := NB132_129.out
         have hms93_1 := NB132_130.out
         have hms93_2 := NB132_131.out
         have hms93_4 := NB132_149.out
         have hs94 : w89.cell? ⟨gb132, 2, none⟩ = some (.int .u64 0) := (blk_cell BK132.out 2).trans rfl
         have hfs94 := blk_frozen BK132.out 2
         have hns94_0 := NB129_132.out
         have hns94_1 := NB130_132.out
         have hns94_2 := NB131_132.out
         have hns94_4 := NB149_132.out
         have hms94_0 := NB132_129.out
         have hms94_1 := NB132_130.out
         have hms94_2 := NB132_131.out
         have hms94_4 := NB132_149.out
         have hs95 : w89.cell? ⟨gb132, 3, none⟩ = some (.bool false) := (blk_cell BK132.out 3).trans rfl
         have hfs95 := blk_frozen BK132.out 3
         have hns95_0 := NB129_132.out
         have hns95_1 := NB130_132.out
         have hns95_2 := NB131_132.out
         have hns95_4 := NB149_132.out
         have hms95_0 := NB132_129.out
         have hms95_1 := NB132_130.out
         have hms95_2 := NB132_131.out
         have hms95_4 := NB132_149.out
         have hs96 : w89.cell? ⟨gb132, 4, none⟩ = some (.bool false) := (blk_cell BK132.out 4).trans rfl
         have hfs96 := blk_frozen BK132.out 4
         have hns96_0 := NB129_132.out
         have hns96_1 := NB130_132.out
         have hns96_2 := NB131_132.out
         have hns96_4 := NB149_132.out
         have hms96_0 := NB132_129.out
         have hms96_1 := NB132_130.out
         have hms96_2 := NB132_131.out
         have hms96_4 := NB132_149.out
         refine skip_ (w1 := ?_) (by rfl) rfl ?_ ?_
         rotate_left
         ·go_simp
          rfl
         refine hK.out _ _ ⟨((cell_far (p := ⟨gb132, _, none⟩) NB129_132.out _).trans (((cell_far (p := ⟨gb132, _, none⟩) NB129_132.out _).trans (((cell_far (p := ⟨gb132, _, none⟩) NB129_132.out _).trans (((cell_far (p := ⟨gb132, _, none⟩) NB129_132.out _).trans (((cell_far (p := ⟨gb132, _, none⟩) NB129_132.out _).trans (hHeld.1)))))))))), ((cell_far (p := ⟨gb132, _, none⟩) NB130_132.out _).trans (((cell_far (p := ⟨gb132, _, none⟩) NB130_132.out _).trans (((cell_far (p := ⟨gb132, _, none⟩) NB130_132.out _).trans (((cell_far (p := ⟨gb132, _, none⟩) NB130_132.out _).trans (((cell_far (p := ⟨gb132, _, none⟩) NB130_132.out _).trans (hHeld.2.1)))))))))), ((cell_far (p := ⟨gb132, _, none⟩) NB130_132.out _).trans (((cell_far (p := ⟨gb132, _, none⟩) NB130_132.out _).trans (((cell_far (p := ⟨gb132, _, none⟩) NB130_132.out _).trans (((cell_far (p := ⟨gb132, _, none⟩) NB130_132.out _).trans (((cell_far (p := ⟨gb132, _, none⟩) NB130_132.out _).trans (hHeld.2.2.1)))))))))), ((cell_far (p := ⟨gb132, _, none⟩) NB130_132.out _).trans (((cell_far (p := ⟨gb132, _, none⟩) NB130_132.out _).trans (((cell_far (p := ⟨gb132, _, none⟩) NB130_132.out _).trans (((cell_far (p := ⟨gb132, _, none⟩) NB130_132.out _).trans (((cell_far (p := ⟨gb132, _, none⟩) NB130_132.out _).trans (hHeld.2.2.2.1)))))))))), ((cell_far (p := ⟨gb132, _, none⟩) NB130_132.out _).trans (((cell_far (p := ⟨gb132, _, none⟩) NB130_132.out _).trans (((cell_far (p := ⟨gb132, _, none⟩) NB130_132.out _).trans (((cell_far (p := ⟨gb132, _, none⟩) NB130_132.out _).trans (((cell_far (p := ⟨gb132, _, none⟩) NB130_132.out _).trans (hHeld.2.2.2.2.1)))))))))), ((cell_far (p := ⟨gb132, _, none⟩) NB130_132.out _).trans (((cell_far (p := ⟨gb132, _, none⟩) NB130_132.out _).trans (((cell_far (p := ⟨gb132, _, none⟩) NB130_132.out _).trans (((cell_far (p := ⟨gb132, _, none⟩) NB130_132.out _).trans (((cell_far (p := ⟨gb132, _, none⟩) NB130_132.out _).trans (hHeld.2.2.2.2.2.1)))))))))), ((cell_far (p := ⟨gb132, _, none⟩) NB130_132.out _).trans (((cell_far (p := ⟨gb132, _, none⟩) NB130_132.out _).trans (((cell_far (p := ⟨gb132, _, none⟩) NB130_132.out _).trans (((cell_far (p := ⟨gb132, _, none⟩) NB130_132.out _).trans (((cell_far (p := ⟨gb132, _, none⟩) NB130_132.out _).trans (hHeld.2.2.2.2.2.2.1)))))))))), ((cell_far (p := ⟨gb132, _, none⟩) NB130_132.out _).trans (((cell_far (p := ⟨gb132, _, none⟩) NB130_132.out _).trans (((cell_far (p := ⟨gb132, _, none⟩) NB130_132.out _).trans (((cell_far (p := ⟨gb132, _, none⟩) NB130_132.out _).trans (((cell_far (p := ⟨gb132, _, none⟩) NB130_132.out _).trans (hHeld.2.2.2.2.2.2.2))))))))))⟩ (fun hHeld => ?_)
         clear hK K
         refine done_ (done_of HT_.out (by kernel_rfl)) ?_
         try go_wp2
         refine bodyPost_ret (results_cc rfl _ _ gb131 gb132 26 30 #[.slice Ao90 t170.length co90] #[.int .i64 t173, .string t174, .int .u64 t175, .bool t176, .bool t177] (0, 0) (0, 0) _ _ rfl (by (with_reducible repeat (first | refine blk_drewN ?_ _ | refine blk_drew ?_ | refine blk_alloc ?_ _)); refine blk_far ?_ NB131_132.out _; (with_reducible repeat (first | refine blk_drewN ?_ _ | refine blk_drew ?_ | refine blk_alloc ?_ _)); refine blk_far ?_ NB131_132.out _; (with_reducible repeat (first | refine blk_drewN ?_ _ | refine blk_drew ?_ | refine blk_alloc ?_ _)); refine blk_far ?_ NB131_132.out _; (with_reducible repeat (first | refine blk_drewN ?_ _ | refine blk_drew ?_ | refine blk_alloc ?_ _)); refine blk_far ?_ NB131_132.out _; (with_reducible repeat (first | refine blk_drewN ?_ _ | refine blk_drew ?_ | refine blk_alloc ?_ _)); refine blk_far ?_ NB131_132.out _; (with_reducible repeat (first | refine blk_drewN ?_ _ | refine blk_drew ?_ | refine blk_alloc ?_ _)); refine blk_put (cs := #[.slice none 0 0]) ?_ 0 _ rfl; (with_reducible repeat (first | refine blk_drewN ?_ _ | refine blk_drew ?_ | refine blk_alloc ?_ _)); exact BK131.out) Try.underlying26 rfl (by kernel_rfl) rfl (by (with_reducible repeat (first | refine blk_drewN ?_ _ | refine blk_drew ?_ | refine blk_alloc ?_ _)); refine blk_put (cs := #[.int .i64 t173, .string t174, .int .u64 t175, .bool t176, .bool false]) ?_ 4 _ rfl; (with_reducible repeat (first | refine blk_drewN ?_ _ | refine blk_drew ?_ | refine blk_alloc ?_ _)); refine blk_put (cs := #[.int .i64 t173, .string t174, .int .u64 t175, .bool false, .bool false]) ?_ 3 _ rfl; (with_reducible repeat (first | refine blk_drewN ?_ _ | refine blk_drew ?_ | refine blk_alloc ?_ _)); refine blk_put (cs := #[.int .i64 t173, .string t174, .int .u64 0, .bool false, .bool false]) ?_ 2 _ rfl; (with_reducible repeat (first | refine blk_drewN ?_ _ | refine blk_drew ?_ | refine blk_alloc ?_ _)); refine blk_put (cs := #[.int .i64 t173, .string (⟨#[]⟩ : ByteArray), .int .u64 0, .bool false, .bool false]) ?_ 1 _ rfl; (with_reducible repeat (first | refine blk_drewN ?_ _ | refine blk_drew ?_ | refine blk_alloc ?_ _)); refine blk_put (cs := #[.int .i64 0, .string (⟨#[]⟩ : ByteArray), .int .u64 0, .bool false, .bool false]) ?_ 0 _ rfl; (with_reducible repeat (first | refine blk_drewN ?_ _ | refine blk_drew ?_ | refine blk_alloc ?_ _)); refine blk_far ?_ NB132_131.out _; (with_reducible repeat (first | refine blk_drewN ?_ _ | refine blk_drew ?_ | refine blk_alloc ?_ _)); exact BK132.out) Try.underlying30 rfl (by kernel_rfl)) rfl ?_
         exact ⟨_, by first | rfl | (simp [errW_none, errW_some] <;> rfl) | (simp [*, errW_none, errW_some] <;> rfl), by (with_reducible repeat (first | apply Kd.V_alloc | apply Kd.V_drewN | apply Kd.V_drew)); exact Kd.V_mono (Kd.V_far (p := ⟨gb132, 4, none⟩) (Kd.V_far (p := ⟨gb132, 3, none⟩) (Kd.V_far (p := ⟨gb132, 2, none⟩) (Kd.V_far (p := ⟨gb132, 1, none⟩) (Kd.V_far (p := ⟨gb132, 0, none⟩) (Kd.V_far (p := ⟨gb131, 0, none⟩) (Kd.V_mono (Kd.V_mono HO172.out (fun k_ hk => (⟨hk, hk.2.2.2.2.1⟩ : _ ∧ k_ ≠ gb131))) (fun k_ hk => (⟨hk, hk.1.2.2.2.2.2.1⟩ : _ ∧ k_ ≠ gb132))) (fun _ hk => hk.1.2) (.slice Ao90 t170.length co90)) (fun _ hk => hk.2) (.int .i64 t173)) (fun _ hk => hk.2) (.string t174)) (fun _ hk => hk.2) (.int .u64 t175)) (fun _ hk => hk.2) (.bool t176)) (fun _ hk => hk.2) (.bool t177)) (fun _ hk => hk.1.1.1), hx_ HB⟩
 ·replace c4 := Bool.eq_false_iff.mpr c4
  subst c4
  have H1 : ((coord_no.f l0_0 1).bind fun bt134 => (some (bt134.1, bt134.2.1, bt134.2.2.1, bt134.2.2.2.1, bt134.2.2.2.2.1, bt134.2.2.2.2.2))) = some (r1, r2, r3, r4, r5, r6) := by rw [if_neg (show ¬ (false = true) by decide)] at H; exact H
  clear H
  have H := H1
  clear H1
  replace H := Option.bind_eq_some_iff.mp H
  obtain ⟨⟨t134, t137, t138, t139, t140, t141⟩, A970, H⟩ := H
  replace H : (some (t134, t137, t138, t139, t140, t141)) = some (r1, r2, r3, r4, r5, r6) := H
  have A97 := am_ A970
  clear A970
  simp only [Option.some.injEq, Prod.mk.injEq] at H
  obtain ⟨rfl, rfl, rfl, rfl, rfl, rfl⟩ := H
  go_enter Try.func17, Try.ntmps17
  go_wp2_with (first | ((with_reducible refine gate_dst (N := 2) rfl ?_); refine box_event ?hg (N := 2) ?hd (cs := #[.slice A0_0 l0_0.length c0_0]) (t := 26) ?hr ?_; (case hd => rfl); (case hg => rfl); (case hr => first | (go_simp; done) | (go_simp; rfl)); intro gb129 hg w98 hbox hb; have n0_ := am_ (Kd.V_below (Kd.V_elderB (vx_ HO0_0) gb129 (Nat.le_of_eq hg.symm)) hb); have n1_ := am_ (below_step (hx_ HB) hb); have n2_ := am_ (hbox); have n3_ := am_ ((by rw [hg]; exact (below_size (hx_ HB)) : w.heap.size ≤ gb129)); have n4_ := am_ ((by rw [hg]; exact (below_size (hx_ HB)) : w.heap.size ≤ gb129)); clear HO0_0; clear HB; have HO0_0 := n0_; have HB := n1_; have BK129 := n2_; have GW129 := n3_; have GE129 := n4_; clear n0_ n1_ n2_ n3_ n4_; clear hb hbox hg) | ((with_reducible refine gate_dst (N := 3) rfl ?_); refine box_event ?hg (N := 3) ?hd (cs := #[.int .i64 a1_0, .int .u64 a1_1, .int .u64 a1_2, .string a1_3, .slice A1_4 l1_4.length c1_4, .bool a1_5, .slice A1_6 l1_6.length c1_6]) (t := 38) ?hr ?_; (case hd => rfl); (case hg => rfl); (case hr => first | (go_simp; done) | (go_simp; rfl)); intro gb130 hg w99 hbox hb; have n0_ := am_ (Kd.V_below (Kd.V_elderB (vx_ HO0_0) gb130 (Nat.le_of_eq hg.symm)) hb); have n1_ := am_ (blk_below (g := gb129) (o := .cells #[.slice A0_0 l0_0.length c0_0] 26 (0, 0)) (bx_ BK129) hb); have n2_ := am_ (below_step (hx_ HB) hb); have n3_ := am_ (hbox); have n4_ := am_ ((by rw [hg]; exact (below_size (hx_ HB)) : w.heap.size ≤ gb130)); have n5_ := am_ ((by rw [hg]; exact (below_size (hx_ HB)) : w.heap.size ≤ gb130)); have n6_ := am_ ((by rw [hg]; exact Nat.ne_of_lt (blk_lt (g := gb129) (o := .cells #[.slice A0_0 l0_0.length c0_0] 26 (0, 0)) (bx_ BK129)) : gb129 ≠ gb130)); have n7_ := am_ ((by rw [hg]; exact Nat.ne_of_gt (blk_lt (g := gb129) (o := .cells #[.slice A0_0 l0_0.length c0_0] 26 (0, 0)) (bx_ BK129)) : gb130 ≠ gb129)); clear HO0_0; clear BK129; clear HB; have HO0_0 := n0_; have BK129 := n1_; have HB := n2_; have BK130 := n3_; have GW130 := n4_; have GE130 := n5_; have NB129_130 := n6_; have NB130_129 := n7_; clear n0_ n1_ n2_ n3_ n4_ n5_ n6_ n7_; clear hb hbox hg) | ((with_reducible refine gate_dst (N := 4) rfl ?_); refine box_event ?hg (N := 4) ?hd (cs := #[.slice none 0 0]) (t := 26) ?hr ?_; (case hd => rfl); (case hg => rfl); (case hr => first | (go_simp; done) | (go_simp; rfl)); intro gb131 hg w100 hbox hb; have n0_ := am_ (Kd.V_below (Kd.V_elderB (vx_ HO0_0) gb131 (Nat.le_of_eq hg.symm)) hb); have n1_ := am_ (blk_below (g := gb129) (o := .cells #[.slice A0_0 l0_0.length c0_0] 26 (0, 0)) (bx_ BK129) hb); have n2_ := am_ (blk_below (g := gb130) (o := .cells #[.int .i64 a1_0, .int .u64 a1_1, .int .u64 a1_2, .string a1_3, .slice A1_4 l1_4.length c1_4, .bool a1_5, .slice A1_6 l1_6.length c1_6] 38 (0, 0)) (bx_ BK130) hb); have n3_ := am_ (below_step (hx_ HB) hb); have n4_ := am_ (hbox); have n5_ := am_ ((by rw [hg]; exact (below_size (hx_ HB)) : w.heap.size ≤ gb131)); have n6_ := am_ ((by rw [hg]; exact (below_size (hx_ HB)) : w.heap.size ≤ gb131)); have n7_ := am_ ((by rw [hg]; exact Nat.ne_of_lt (blk_lt (g := gb129) (o := .cells #[.slice A0_0 l0_0.length c0_0] 26 (0, 0)) (bx_ BK129)) : gb129 ≠ gb131)); have n8_ := am_ ((by rw [hg]; exact Nat.ne_of_gt (blk_lt (g := gb129) (o := .cells #[.slice A0_0 l0_0.length c0_0] 26 (0, 0)) (bx_ BK129)) : gb131 ≠ gb129)); have n9_ := am_ ((by rw [hg]; exact Nat.ne_of_lt (blk_lt (g := gb130) (o := .cells #[.int .i64 a1_0, .int .u64 a1_1, .int .u64 a1_2, .string a1_3, .slice A1_4 l1_4.length c1_4, .bool a1_5, .slice A1_6 l1_6.length c1_6] 38 (0, 0)) (bx_ BK130)) : gb130 ≠ gb131)); have n10_ := am_ ((by rw [hg]; exact Nat.ne_of_gt (blk_lt (g := gb130) (o := .cells #[.int .i64 a1_0, .int .u64 a1_1, .int .u64 a1_2, .string a1_3, .slice A1_4 l1_4.length c1_4, .bool a1_5, .slice A1_6 l1_6.length c1_6] 38 (0, 0)) (bx_ BK130)) : gb131 ≠ gb130)); clear HO0_0; clear BK129; clear BK130; clear HB; have HO0_0 := n0_; have BK129 := n1_; have BK130 := n2_; have HB := n3_; have BK131 := n4_; have GW131 := n5_; have GE131 := n6_; have NB129_131 := n7_; have NB131_129 := n8_; have NB130_131 := n9_; have NB131_130 := n10_; clear n0_ n1_ n2_ n3_ n4_ n5_ n6_ n7_ n8_ n9_ n10_; clear hb hbox hg) | ((with_reducible refine gate_dst (N := 5) rfl ?_); refine box_event ?hg (N := 5) ?hd (cs := #[.int .i64 0, .string (⟨#[]⟩ : ByteArray), .int .u64 0, .bool false, .bool false]) (t := 30) ?hr ?_; (case hd => rfl); (case hg => rfl); (case hr => first | (go_simp; done) | (go_simp; rfl)); intro gb132 hg w101 hbox hb; have n0_ := am_ (Kd.V_below (Kd.V_elderB (vx_ HO0_0) gb132 (Nat.le_of_eq hg.symm)) hb); have n1_ := am_ (blk_below (g := gb129) (o := .cells #[.slice A0_0 l0_0.length c0_0] 26 (0, 0)) (bx_ BK129) hb); have n2_ := am_ (blk_below (g := gb130) (o := .cells #[.int .i64 a1_0, .int .u64 a1_1, .int .u64 a1_2, .string a1_3, .slice A1_4 l1_4.length c1_4, .bool a1_5, .slice A1_6 l1_6.length c1_6] 38 (0, 0)) (bx_ BK130) hb); have n3_ := am_ (blk_below (g := gb131) (o := .cells #[.slice none 0 0] 26 (0, 0)) (bx_ BK131) hb); have n4_ := am_ (below_step (hx_ HB) hb); have n5_ := am_ (hbox); have n6_ := am_ ((by rw [hg]; exact (below_size (hx_ HB)) : w.heap.size ≤ gb132)); have n7_ := am_ ((by rw [hg]; exact (below_size (hx_ HB)) : w.heap.size ≤ gb132)); have n8_ := am_ ((by rw [hg]; exact Nat.ne_of_lt (blk_lt (g := gb129) (o := .cells #[.slice A0_0 l0_0.length c0_0] 26 (0, 0)) (bx_ BK129)) : gb129 ≠ gb132)); have n9_ := am_ ((by rw [hg]; exact Nat.ne_of_gt (blk_lt (g := gb129) (o := .cells #[.slice A0_0 l0_0.length c0_0] 26 (0, 0)) (bx_ BK129)) : gb132 ≠ gb129)); have n10_ := am_ ((by rw [hg]; exact Nat.ne_of_lt (blk_lt (g := gb130) (o := .cells #[.int .i64 a1_0, .int .u64 a1_1, .int .u64 a1_2, .string a1_3, .slice A1_4 l1_4.length c1_4, .bool a1_5, .slice A1_6 l1_6.length c1_6] 38 (0, 0)) (bx_ BK130)) : gb130 ≠ gb132)); have n11_ := am_ ((by rw [hg]; exact Nat.ne_of_gt (blk_lt (g := gb130) (o := .cells #[.int .i64 a1_0, .int .u64 a1_1, .int .u64 a1_2, .string a1_3, .slice A1_4 l1_4.length c1_4, .bool a1_5, .slice A1_6 l1_6.length c1_6] 38 (0, 0)) (bx_ BK130)) : gb132 ≠ gb130)); have n12_ := am_ ((by rw [hg]; exact Nat.ne_of_lt (blk_lt (g := gb131) (o := .cells #[.slice none 0 0] 26 (0, 0)) (bx_ BK131)) : gb131 ≠ gb132)); have n13_ := am_ ((by rw [hg]; exact Nat.ne_of_gt (blk_lt (g := gb131) (o := .cells #[.slice none 0 0] 26 (0, 0)) (bx_ BK131)) : gb132 ≠ gb131)); clear HO0_0; clear BK129; clear BK130; clear BK131; clear HB; have HO0_0 := n0_; have BK129 := n1_; have BK130 := n2_; have BK131 := n3_; have HB := n4_; have BK132 := n5_; have GW132 := n6_; have GE132 := n7_; have NB129_132 := n8_; have NB132_129 := n9_; have NB130_132 := n10_; have NB132_130 := n11_; have NB131_132 := n12_; have NB132_131 := n13_; clear n0_ n1_ n2_ n3_ n4_ n5_ n6_ n7_ n8_ n9_ n10_ n11_ n12_ n13_; clear hb hbox hg; have hnb102 := NB130_129.out; have hnc102 := NB129_130.out; have hnb103 := NB130_131.out; have hnc103 := NB131_130.out; have hnb104 := NB130_132.out; have hnc104 := NB132_130.out; have hcz105_0 : w101.cell? ⟨gb130, 0, none⟩ = some (.int .i64 a1_0) := (blk_cell BK130.out 0).trans rfl; have hcz105_1 : w101.cell? ⟨gb130, 1, none⟩ = some (.int .u64 a1_1) := (blk_cell BK130.out 1).trans rfl; have hcz105_2 : w101.cell? ⟨gb130, 2, none⟩ = some (.int .u64 a1_2) := (blk_cell BK130.out 2).trans rfl; have hcz105_3 : w101.cell? ⟨gb130, 3, none⟩ = some (.string a1_3) := (blk_cell BK130.out 3).trans rfl; have hcz105_4 : w101.cell? ⟨gb130, 4, none⟩ = some (.slice A1_4 l1_4.length c1_4) := (blk_cell BK130.out 4).trans rfl; have hcz105_5 : w101.cell? ⟨gb130, 5, none⟩ = some (.bool a1_5) := (blk_cell BK130.out 5).trans rfl; have hcz105_6 : w101.cell? ⟨gb130, 6, none⟩ = some (.slice A1_6 l1_6.length c1_6) := (blk_cell BK130.out 6).trans rfl; have hfz105_0 := blk_frozen BK130.out 0; have hfz105_1 := blk_frozen BK130.out 1; have hfz105_2 := blk_frozen BK130.out 2; have hfz105_3 := blk_frozen BK130.out 3; have hfz105_4 := blk_frozen BK130.out 4; have hfz105_5 := blk_frozen BK130.out 5; have hfz105_6 := blk_frozen BK130.out 6) | ((with_reducible refine gate_callee (f := 26) rfl ?_); refine goesL_ (some 10) rfl rfl Try.func26 (by kernel_rfl) rfl #[.slice A1_6 l1_6.length c1_6] rfl (by (try simp only [List.map_toArray, List.map_cons, List.map_nil]); first | done | rfl | (simp only [List.length_drop, List.length_take]; rfl)) ?_; (with_reducible refine (coord_may.calls k _ _ l1_6 false _ ?side1 ?side2 A3.out).mono ?_); (case side1 => repeat (first | exact (Kd.C_below HR1_6.out HB.out) | (with_reducible refine Kd.C_alloc ?_ _) | (with_reducible refine Kd.C_drewN ?_ _) | (with_reducible refine Kd.C_drew ?_))); (case side2 => exact HC1_6.out); rintro e w' ⟨rfl, ⟨nd, rfl⟩⟩; refine ⟨_, rfl, ?_⟩; (try (rw [drewN_self w101]; generalize hq_ : World.drewN w101 _ = w101; have n0_ : Aside0 (Kd.V k42 42 w101 w.heap.size (fun k_ => ((((P0_0_ k_ ∨ w.heap.size ≤ k_) ∧ k_ ≠ gb129) ∧ k_ ≠ gb130) ∧ k_ ≠ gb131) ∧ k_ ≠ gb132) (.slice A0_0 l0_0.length c0_0) l0_0) := ⟨by rw [← hq_]; exact (vx_ HO0_0)⟩; have n1_ : Aside0 (w101.heap[gb129]? = some (.cells #[.slice A0_0 l0_0.length c0_0] 26 (0, 0))) := ⟨by rw [← hq_]; exact (bx_ BK129)⟩; have n2_ : Aside0 (w101.heap[gb130]? = some (.cells #[.int .i64 a1_0, .int .u64 a1_1, .int .u64 a1_2, .string a1_3, .slice A1_4 l1_4.length c1_4, .bool a1_5, .slice A1_6 l1_6.length c1_6] 38 (0, 0))) := ⟨by rw [← hq_]; exact (bx_ BK130)⟩; have n3_ : Aside0 (w101.heap[gb131]? = some (.cells #[.slice none 0 0] 26 (0, 0))) := ⟨by rw [← hq_]; exact (bx_ BK131)⟩; have n4_ : Aside0 (w101.heap[gb132]? = some (.cells #[.int .i64 0, .string (⟨#[]⟩ : ByteArray), .int .u64 0, .bool false, .bool false] 30 (0, 0))) := ⟨by rw [← hq_]; exact (bx_ BK132)⟩; have n5_ : Aside0 (Below w.heap.size w w101) := ⟨by rw [← hq_]; exact (hx_ HB)⟩; clear HO0_0 BK129 BK130 BK131 BK132 HB hq_; have HO0_0 := n0_; have BK129 := n1_; have BK130 := n2_; have BK131 := n3_; have BK132 := n4_; have HB := n5_; clear n0_ n1_ n2_ n3_ n4_ n5_)); have hnb106 := NB129_131.out; have hnc106 := NB131_129.out; have hnb107 := NB129_132.out; have hnc107 := NB132_129.out; have hcz108_0 : w101.cell? ⟨gb129, 0, none⟩ = some (.slice A0_0 l0_0.length c0_0) := (blk_cell BK129.out 0).trans rfl; have hfz108_0 := blk_frozen BK129.out 0; have hcq1 : w101.cell? ⟨gb130, 1, none⟩ = some (.int .u64 a1_1) := (blk_cell BK130.out 1).trans rfl; have hcq2 : w101.cell? ⟨gb130, 2, none⟩ = some (.int .u64 a1_2) := (blk_cell BK130.out 2).trans rfl) | ((with_reducible refine gate_callee (f := 19) rfl ?_); refine goesL_ (some 13) rfl rfl Try.func19 (by kernel_rfl) rfl #[.agg #[.slice A0_0 l0_0.length c0_0], .int .i64 1] rfl (by (try simp only [List.map_toArray, List.map_cons, List.map_nil]); first | done | rfl | (simp only [List.length_drop, List.length_take]; rfl)) ?_; (with_reducible refine (coord_no.calls (fun k_ => (((((P0_0_ k_ ∨ w.heap.size ≤ k_) ∧ k_ ≠ gb129) ∧ k_ ≠ gb130) ∧ k_ ≠ gb131) ∧ k_ ≠ gb132)) _ _ l0_0 1 t134 t137 t138 t139 t140 t141 _ ?side1 A97.out).mono ?_); (case side1 => exact HO0_0.out); rintro e w109 ⟨v135, rfl, ho0, hb⟩; refine ⟨_, rfl, ?_⟩; have n0_ := am_ (Kd.V_below (vx_ HO0_0) hb); have n1_ := am_ (Kd.V_lower (Kd.V_mono (ok' := fun k_ => (P0_0_ k_ ∨ w.heap.size ≤ k_) ∧ k_ ≠ gb129 ∧ k_ ≠ gb130 ∧ k_ ≠ gb131 ∧ k_ ≠ gb132) ho0 (fun k_ hk_ => ⟨Or.elim hk_ (fun hs_ => hs_.1.1.1.1) (fun hn_ => (.inr (Nat.le_trans (below_size (hx_ HB)) hn_))), Or.elim hk_ (fun hs_ => hs_.1.1.1.2) (fun hn_ => (Kd.freshB (g := gb129) (o := .cells #[.slice A0_0 l0_0.length c0_0] 26 (0, 0)) (bx_ BK129) k_ hn_)), Or.elim hk_ (fun hs_ => hs_.1.1.2) (fun hn_ => (Kd.freshB (g := gb130) (o := .cells #[.int .i64 a1_0, .int .u64 a1_1, .int .u64 a1_2, .string a1_3, .slice A1_4 l1_4.length c1_4, .bool a1_5, .slice A1_6 l1_6.length c1_6] 38 (0, 0)) (bx_ BK130) k_ hn_)), Or.elim hk_ (fun hs_ => hs_.1.2) (fun hn_ => (Kd.freshB (g := gb131) (o := .cells #[.slice none 0 0] 26 (0, 0)) (bx_ BK131) k_ hn_)), Or.elim hk_ (fun hs_ => hs_.2) (fun hn_ => (Kd.freshB (g := gb132) (o := .cells #[.int .i64 0, .string (⟨#[]⟩ : ByteArray), .int .u64 0, .bool false, .bool false] 30 (0, 0)) (bx_ BK132) k_ hn_))⟩)) (below_size (hx_ HB))); have n2_ := am_ (blk_below (g := gb129) (o := .cells #[.slice A0_0 l0_0.length c0_0] 26 (0, 0)) (bx_ BK129) hb); have n3_ := am_ (blk_below (g := gb130) (o := .cells #[.int .i64 a1_0, .int .u64 a1_1, .int .u64 a1_2, .string a1_3, .slice A1_4 l1_4.length c1_4, .bool a1_5, .slice A1_6 l1_6.length c1_6] 38 (0, 0)) (bx_ BK130) hb); have n4_ := am_ (blk_below (g := gb131) (o := .cells #[.slice none 0 0] 26 (0, 0)) (bx_ BK131) hb); have n5_ := am_ (blk_below (g := gb132) (o := .cells #[.int .i64 0, .string (⟨#[]⟩ : ByteArray), .int .u64 0, .bool false, .bool false] 30 (0, 0)) (bx_ BK132) hb); have n6_ := am_ (below_step (hx_ HB) hb); clear HO0_0; clear BK129; clear BK130; clear BK131; clear BK132; clear HB; have HO0_0 := n0_; have HO136 := n1_; have BK129 := n2_; have BK130 := n3_; have BK131 := n4_; have BK132 := n5_; have HB := n6_; clear n0_ n1_ n2_ n3_ n4_ n5_ n6_; (try clear hb); (try clear hb2); (try clear hk); (try clear hi); (try clear ho0); obtain ⟨Ao110, co110, eo110⟩ := Kd.V_slice HO136.out; subst eo110; have hnb111 := NB131_132.out; have hnc111 := NB132_131.out; have hcz112_0 : w109.cell? ⟨gb131, 0, none⟩ = some (.slice none 0 0) := (blk_cell BK131.out 0).trans rfl; have hfz112_0 := blk_frozen BK131.out 0; have hcz113_0 : w109.cell? ⟨gb132, 0, none⟩ = some (.int .i64 0) := (blk_cell BK132.out 0).trans rfl; have hcz113_1 : w109.cell? ⟨gb132, 1, none⟩ = some (.string (⟨#[]⟩ : ByteArray)) := (blk_cell BK132.out 1).trans rfl; have hcz113_2 : w109.cell? ⟨gb132, 2, none⟩ = some (.int .u64 0) := (blk_cell BK132.out 2).trans rfl; have hcz113_3 : w109.cell? ⟨gb132, 3, none⟩ = some (.bool false) := (blk_cell BK132.out 3).trans rfl; have hcz113_4 : w109.cell? ⟨gb132, 4, none⟩ = some (.bool false) := (blk_cell BK132.out 4).trans rfl; have hfz113_0 := blk_frozen BK132.out 0; have hfz113_1 := blk_frozen BK132.out 1; have hfz113_2 := blk_frozen BK132.out 2; have hfz113_3 := blk_frozen BK132.out 3; have hfz113_4 := blk_frozen BK132.out 4))
  refine bodyPost_ret (results_cc rfl _ _ gb131 gb132 26 30 #[.slice Ao110 t134.length co110] #[.int .i64 t137, .string t138, .int .u64 t139, .bool t140, .bool t141] (0, 0) (0, 0) _ _ rfl (by (with_reducible repeat (first | refine blk_drewN ?_ _ | refine blk_drew ?_ | refine blk_alloc ?_ _)); refine blk_far ?_ NB131_132.out _; (with_reducible repeat (first | refine blk_drewN ?_ _ | refine blk_drew ?_ | refine blk_alloc ?_ _)); refine blk_far ?_ NB131_132.out _; (with_reducible repeat (first | refine blk_drewN ?_ _ | refine blk_drew ?_ | refine blk_alloc ?_ _)); refine blk_far ?_ NB131_132.out _; (with_reducible repeat (first | refine blk_drewN ?_ _ | refine blk_drew ?_ | refine blk_alloc ?_ _)); refine blk_far ?_ NB131_132.out _; (with_reducible repeat (first | refine blk_drewN ?_ _ | refine blk_drew ?_ | refine blk_alloc ?_ _)); refine blk_far ?_ NB131_132.out _; (with_reducible repeat (first | refine blk_drewN ?_ _ | refine blk_drew ?_ | refine blk_alloc ?_ _)); refine blk_put (cs := #[.slice none 0 0]) ?_ 0 _ rfl; (with_reducible repeat (first | refine blk_drewN ?_ _ | refine blk_drew ?_ | refine blk_alloc ?_ _)); exact BK131.out) Try.underlying26 rfl (by kernel_rfl) rfl (by (with_reducible repeat (first | refine blk_drewN ?_ _ | refine blk_drew ?_ | refine blk_alloc ?_ _)); refine blk_put (cs := #[.int .i64 t137, .string t138, .int .u64 t139, .bool t140, .bool false]) ?_ 4 _ rfl; (with_reducible repeat (first | refine blk_drewN ?_ _ | refine blk_drew ?_ | refine blk_alloc ?_ _)); refine blk_put (cs := #[.int .i64 t137, .string t138, .int .u64 t139, .bool false, .bool false]) ?_ 3 _ rfl; (with_reducible repeat (first | refine blk_drewN ?_ _ | refine blk_drew ?_ | refine blk_alloc ?_ _)); refine blk_put (cs := #[.int .i64 t137, .string t138, .int .u64 0, .bool false, .bool false]) ?_ 2 _ rfl; (with_reducible repeat (first | refine blk_drewN ?_ _ | refine blk_drew ?_ | refine blk_alloc ?_ _)); refine blk_put (cs := #[.int .i64 t137, .string (⟨#[]⟩ : ByteArray), .int .u64 0, .bool false, .bool false]) ?_ 1 _ rfl; (with_reducible repeat (first | refine blk_drewN ?_ _ | refine blk_drew ?_ | refine blk_alloc ?_ _)); refine blk_put (cs := #[.int .i64 0, .string (⟨#[]⟩ : ByteArray), .int .u64 0, .bool false, .bool false]) ?_ 0 _ rfl; (with_reducible repeat (first | refine blk_drewN ?_ _ | refine blk_drew ?_ | refine blk_alloc ?_ _)); refine blk_far ?_ NB132_131.out _; (with_reducible repeat (first | refine blk_drewN ?_ _ | refine blk_drew ?_ | refine blk_alloc ?_ _)); exact BK132.out) Try.underlying30 rfl (by kernel_rfl)) rfl ?_
  exact ⟨_, by first | rfl | (simp [errW_none, errW_some] <;> rfl) | (simp [*, errW_none, errW_some] <;> rfl), by (with_reducible repeat (first | apply Kd.V_alloc | apply Kd.V_drewN | apply Kd.V_drew)); exact Kd.V_mono (Kd.V_far (p := ⟨gb132, 4, none⟩) (Kd.V_far (p := ⟨gb132, 3, none⟩) (Kd.V_far (p := ⟨gb132, 2, none⟩) (Kd.V_far (p := ⟨gb132, 1, none⟩) (Kd.V_far (p := ⟨gb132, 0, none⟩) (Kd.V_far (p := ⟨gb131, 0, none⟩) (Kd.V_mono (Kd.V_mono HO136.out (fun k_ hk => (⟨hk, hk.2.2.2.1⟩ : _ ∧ k_ ≠ gb131))) (fun k_ hk => (⟨hk, hk.1.2.2.2.2⟩ : _ ∧ k_ ≠ gb132))) (fun _ hk => hk.1.2) (.slice Ao110 t134.length co110)) (fun _ hk => hk.2) (.int .i64 t137)) (fun _ hk => hk.2) (.string t138)) (fun _ hk => hk.2) (.int .u64 t139)) (fun _ hk => hk.2) (.bool t140)) (fun _ hk => hk.2) (.bool t141)) (fun _ hk => hk.1.1.1), hx_ HB⟩

end Go.Proofs.Ytdlkpejlkijgcaa.Pr
