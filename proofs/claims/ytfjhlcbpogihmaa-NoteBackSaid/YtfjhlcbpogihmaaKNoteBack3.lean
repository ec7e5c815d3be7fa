/- Several texts of one depth, laid together. Conditions: none. -/
import Derived.Test.YtfjhlcbpogihmaaGNoteBackPr0
import Derived.Test.YtfjhlcbpogihmaaKNoteBack1
import Derived.Deep.RegionWith
import Derived.Deep.RegionHeld3
import Derived.Laws.Tables
import Derived.Test.YtfjhlcbpogihmaaGNoteBackOpn
import Derived.Lib.FrozenHead
import Derived.Lib.ConvBytes
import Derived.Laws.IdiomStrings
section
namespace Go.Proofs.Ytfjhlcbpogihmaa.Pr
open Go.RowKit Go.Proofs.YtfjhlcbpogihmaaW.PrintWords Go.Proofs.YtfjhlcbpogihmaaW.PrintLast Go.Proofs.YtfjhlcbpogihmaaW.PrintMore
attribute [local go_sem] max2_int min2_int max_two min_two max_three min_three max_four min_four
set_option linter.unusedVariables false
set_option linter.unusedSimpArgs false
theorem eqA34 (d : Nat) (w : World) (x0 y0 : ByteArray) (x1 y1 : ByteArray) (x2 y2 : Int) (x3 y3 : Bool) :
    (Op.equalIn (d + 2) 34 (.agg #[.string x0, .string x1, .int .i64 x2, .bool x3]) (.agg #[.string y0, .string y1, .int .i64 y2, .bool y3])).run Try.prog w = .ok (x0.toList == y0.toList && (x1.toList == y1.toList && (x2 == y2 && (x3 == y3)))) w := by
  refine eqA_of Try.underlying34 (by kernel_rfl) ?_
  refine eqf_cons (by rfl) (by go_simp; rfl) (by go_simp; rfl) (by go_simp) ?_
  refine eqf_cons (by rfl) (by go_simp; rfl) (by go_simp; rfl) (by go_simp) ?_
  refine eqf_cons (by rfl) (by go_simp; rfl) (by go_simp; rfl) (by go_simp) ?_
  exact eqf_last (by rfl) (by go_simp; rfl) (by go_simp; rfl) (by go_simp)
end Go.Proofs.Ytfjhlcbpogihmaa.Pr
end
section
namespace Go.Proofs.Ytfjhlcbpogihmaa.Pr
open Go.RowKit Go.Proofs.YtfjhlcbpogihmaaW.PrintWords Go.Proofs.YtfjhlcbpogihmaaW.PrintLast Go.Proofs.YtfjhlcbpogihmaaW.PrintMore
set_option linter.unusedVariables false
/-- A stable state. -/
structure NSt where
  term : Int
  vote : Int
  base : Int
  bt : Int
  snap : ByteArray
  es : List S75
def nst0 : NSt := ⟨0, 0, 0, 0, ⟨#[]⟩, []⟩
def isNext (s : NSt) (n : S39) : Prop := n.f1 = s.base + s.es.length + 1 ∧ s.es.length < 1024 ∧ n.f1 ≤ 1099511627776
instance (s : NSt) (n : S39) : Decidable (isNext s n) := by unfold isNext; infer_instance
def hasAt (s : NSt) (n : S39) : Prop := n.f1 - s.base ≤ s.es.length ∧ (rd_T75 s.es (n.f1 - s.base - 1)).f0 = n.f2
instance (s : NSt) (n : S39) : Decidable (hasAt s n) := by unfold hasAt; infer_instance
def cutN (s : NSt) (n : S39) : Nat := if n.f1 > s.base then (n.f1 - s.base - 1).toNat else 0
/-- A state behind a snapshot. -/
def behindN (s : NSt) (n : S39) : NSt :=
  if n.f1 ≤ s.base ∨ n.f1 > 1099511627776 then s else { s with base := n.f1, bt := n.f2, snap := n.f4, es := if hasAt s n then s.es.drop (n.f1 - s.base).toNat else [] }
/-- A state behind one note more. -/
def stepN (s : NSt) (n : S39) : NSt :=
  if n.f0 = 1 then { s with term := n.f2, vote := n.f3 }
  else if n.f0 = 2 then (if isNext s n then { s with es := s.es ++ [⟨n.f2, n.f4⟩] } else s)
  else if n.f0 = 3 then { s with es := s.es.take (cutN s n) }
  else if n.f0 = 4 then behindN s n
  else s
def foldN (l : List S39) : NSt := l.foldl stepN nst0
def NSt.tup (s : NSt) : Int × Int × Int × Int × ByteArray × List S75 := (s.term, s.vote, s.base, s.bt, s.snap, s.es)
def okN (n : S39) : Bool := decide (0 ≤ n.f1) && decide (n.f1 < 18446744073709551616)
structure okS (s : NSt) : Prop where
  b0 : 0 ≤ s.base
  b1 : s.base ≤ 1099511627776
  l1 : s.es.length ≤ 1024
theorem okN_iff (n : S39) : okN n = true ↔ 0 ≤ n.f1 ∧ n.f1 < 18446744073709551616 := by
  unfold okN
  rw [Bool.and_eq_true, decide_eq_true_iff, decide_eq_true_iff]
theorem okS_step {s : NSt} {n : S39} (h : okS s) (hn : okN n = true) : okS (stepN s n) := by
  obtain ⟨h0, h1⟩ := (okN_iff n).1 hn
  obtain ⟨b0, b1, l1⟩ := h
  unfold stepN
  split
  · exact ⟨b0, b1, l1⟩
  split
  · split
    · rename_i h
      exact ⟨b0, b1, by rw [List.length_append, List.length_singleton]; have := h.2.1; omega⟩
    · exact ⟨b0, b1, l1⟩
  split
  · exact ⟨b0, b1, by rw [List.length_take]; omega⟩
  split
  · unfold behindN
    split
    · exact ⟨b0, b1, l1⟩
    · rename_i h
      refine ⟨by dsimp only; omega, by dsimp only; omega, ?_⟩
      dsimp only
      split
      · rw [List.length_drop]; omega
      · simp
  · exact ⟨b0, b1, l1⟩
theorem okS_0 : okS nst0 := ⟨by decide, by decide, by decide⟩
end Go.Proofs.Ytfjhlcbpogihmaa.Pr
end
section
namespace Go.Proofs.Ytfjhlcbpogihmaa.Pr
open Go.RowKit Go.Proofs.YtfjhlcbpogihmaaW.PrintWords Go.Proofs.YtfjhlcbpogihmaaW.PrintLast Go.Proofs.YtfjhlcbpogihmaaW.PrintMore
open Go.Proofs.Ytfjhlcbpogihmaa.Hnd
attribute [local go_sem] setCell_drewN_ alloc_drewN_
set_option linter.unusedVariables false
set_option linter.unusedSimpArgs false
theorem nil_eq (A : Option Addr) (n c : Nat) (w : World) : (binOp .eql 26 (.slice A n c) (.slice none 0 0)).run Try.prog w = .ok (.bool A.isNone) w := by
  cases A <;> kernel_rfl
attribute [local go_sem high] nil_eq
def slices_Clone.f (l0 : List S75) : Option (List S75) := if l0.length < 5864062014805 then some l0 else none
set_option maxHeartbeats 1000000 in
set_option maxRecDepth 100000 in
theorem slices_Clone.calls (A0 : Option Addr) (c0 : Nat) (l0 : List S75) (r : List S75) (w : World) (hr0 : Kd.C k75 w A0 l0.length l0) (hc0 : l0.length ≤ c0) (h : slices_Clone.f l0 = some r) :
    Calls Try.prog 77 #[.slice A0 l0.length c0] w fun e w' => ∃ v0_ : Value, e = .returned (v0_) ∧ Kd.R k75 75 w' w.heap.size (fun _ => True) v0_ r ∧ Below w.heap.size w w' := by
  unfold slices_Clone.f at h
  by_cases hs : l0.length < 5864062014805
  rotate_left
  · rw [if_neg hs] at h; cases h
  rw [if_pos hs] at h
  obtain rfl := Option.some.inj h
  clear h
  have HS := Aside0.mk hs
  have HR := Aside0.mk hr0
  cases A0 with
  | none =>
    have h0 : l0 = [] := by
      by_cases hz : 0 < l0.length
      · obtain ⟨ad, ha, _⟩ := hr0.2.2 hz
        cases ha
      · exact List.eq_nil_of_length_eq_zero (by omega)
    subst h0
    clear hr0 hs
    go_enter Try.func77, Try.ntmps77
    go_wp2
    go_ret
    exact ⟨_, rfl, Kd.R_nil _ _ _ _ _, Below.refl _ _⟩
  | some ad =>
    clear hr0 hs
    go_enter Try.func77, Try.ntmps77
    go_wp2_with (first
      | ((with_reducible refine gate_dst (N := 5) rfl ?_); refine Kd.R_lit k75 (w0 := w) w.heap.size 75 ?hg (N := 5) ?hd (xs := ([] : List S75)) (inner := []) (ok := fun _ => True) (okp := fun _ => True) ?hr ?hp (fun _ hk => hk) trivial (Below.refl _ _) (Nat.le_refl _) (by simp) ?_; (case hd => rfl); (case hg => rfl); (case hr => first | (go_simp; done) | (go_simp; rfl)); (case hp => exact (Reps.none _ _)); intro v1 w1 ho hb hg_ hnew_; have HO := Aside0.mk ho; have HB := Aside0.mk hb; clear ho hb hg_ hnew_)
      | ((with_reducible refine gate_builtin (b := .append) (xs := #[.tmp 5, .tmp 6]) rfl ?_); (try (refine gate_guard (by rfl) ?_; dsimp only)); at_builtin; refine Kd.R_append_rows k75 (w0 := w) w.heap.size rfl (.tmp 5) (.tmp 6) 26 75 (.agg #[(.int .u64 0), (.string ⟨#[]⟩)]) 24 rfl Try.underlying26 info75 rfl (by decide) (by omega) _ ([] : List S75) l0 _ _ _ (fun _ => True) (fun _ => False) rfl rfl ?aO ?aR (fun _ _ h => h) (fun _ h => h.elim) (fun _ _ => trivial) ?aB ?aS ?aL ?_; (case aR => exact Kd.C_below HR.out HB.out); (case aB => exact HB.out); (case aO => exact HO.out); (case aS => exact HB.out.size); (case aL => have := HS.out; simp only [List.length_nil]; omega); intro v2 w2 ho hb hg hat; have HO2 := Aside0.mk ho; have HB2 := Aside0.mk hb; clear ho hb hg hat))
    go_ret
    exact ⟨_, rfl, HO2.out, HB2.out⟩
end Go.Proofs.Ytfjhlcbpogihmaa.Pr
end
section
namespace Go.Proofs.Ytfjhlcbpogihmaa.Pr
open Go.RowKit Go.Proofs.YtfjhlcbpogihmaaW.PrintWords Go.Proofs.YtfjhlcbpogihmaaW.PrintLast Go.Proofs.YtfjhlcbpogihmaaW.PrintMore
attribute [local go_sem] max2_int min2_int max_two min_two max_three min_three max_four min_four
set_option linter.unusedVariables false
set_option linter.unusedSimpArgs false
/-! ### note_last: function 42 -/
def note_last.f (a0_0 : Int) (a0_1 : Int) (a0_2 : ByteArray) (l0_3 : List (S75)) : Option (Int) := some (IntKind.u64.wrap (a0_0 + (IntKind.u64.wrap ((l0_3.length : Int)))))
set_option maxHeartbeats 8000000 in
set_option maxRecDepth 100000 in
theorem note_last.calls (a0_0 : Int) (a0_1 : Int) (a0_2 : ByteArray) (A0_3 : Option Addr) (c0_3 : Nat) (l0_3 : List (S75)) (r : Int) (w : World) (hr0_3 : Kd.C k75 w A0_3 l0_3.length l0_3) (hc0_3 : l0_3.length ≤ c0_3) (h : note_last.f a0_0 a0_1 a0_2 l0_3 = some r) :
    Calls Try.prog 42 #[.agg #[.int .u64 a0_0, .int .u64 a0_1, .string a0_2, .slice A0_3 l0_3.length c0_3]] w fun e w' => e = .returned (.int .u64 r) ∧ Below w.heap.size w w' := by
  have hu28 := Try.underlying28
  have HR0_3 := Aside0.mk hr0_3
  have HC0_3 := Aside0.mk hc0_3
  clear hr0_3 hc0_3
  have HB := Aside0.mk (Below.refl w.heap.size w)
  have H : (some (IntKind.u64.wrap (a0_0 + (IntKind.u64.wrap ((l0_3.length : Int)))))) = some r := h
  clear h
  obtain rfl := Option.some.inj H
  go_enter Try.func42, Try.ntmps42
  go_wp2_with (first | ((with_reducible refine gate_dst (N := 1) rfl ?_); refine box_event ?hg (N := 1) ?hd (cs := #[.int .u64 a0_0, .int .u64 a0_1, .string a0_2, .slice A0_3 l0_3.length c0_3]) (t := 28) ?hr ?_; (case hd => rfl); (case hg => rfl); (case hr => first | (go_simp; done) | (go_simp; rfl)); intro gb101 hg w2 hbox hb; have n0_ := Aside0.mk (below_step (by repeat (first | (with_reducible first | exact HB.out | apply below_alloc | apply pw_below_drewN | apply below_drew1) | exact HB.out | exact Below.refl _ _)) hb); have n1_ := Aside0.mk (hbox); have n2_ := Aside0.mk ((by rw [hg]; exact (below_size (by repeat (first | (with_reducible first | exact HB.out | apply below_alloc | apply pw_below_drewN | apply below_drew1) | exact HB.out))) : w.heap.size ≤ gb101)); have n3_ := Aside0.mk ((by rw [hg]; exact (below_size (by repeat (first | (with_reducible first | exact HB.out | apply below_alloc | apply pw_below_drewN | apply below_drew1) | exact HB.out))) : w.heap.size ≤ gb101)); clear HB; have HB := n0_; have BK101 := n1_; have GW101 := n2_; have GE101 := n3_; clear n0_ n1_ n2_ n3_; clear hb hbox hg; have hcz3_0 : w2.cell? ⟨gb101, 0, none⟩ = some (.int .u64 a0_0) := (blk_cell BK101.out 0).trans rfl; have hcz3_1 : w2.cell? ⟨gb101, 1, none⟩ = some (.int .u64 a0_1) := (blk_cell BK101.out 1).trans rfl; have hcz3_2 : w2.cell? ⟨gb101, 2, none⟩ = some (.string a0_2) := (blk_cell BK101.out 2).trans rfl; have hcz3_3 : w2.cell? ⟨gb101, 3, none⟩ = some (.slice A0_3 l0_3.length c0_3) := (blk_cell BK101.out 3).trans rfl; have hfz3_0 := blk_frozen BK101.out 0; have hfz3_1 := blk_frozen BK101.out 1; have hfz3_2 := blk_frozen BK101.out 2; have hfz3_3 := blk_frozen BK101.out 3))
  go_ret
  exact ⟨by first | rfl | (simp [errW_none, errW_some] <;> rfl) | (simp [*, errW_none, errW_some] <;> rfl), by repeat (first | (with_reducible first | exact HB.out | apply below_alloc | apply pw_below_drewN | apply below_drew1 | refine below_set ?_ GE101.out) | exact HB.out)⟩
end Go.Proofs.Ytfjhlcbpogihmaa.Pr
end
section
namespace Go.Proofs.Ytfjhlcbpogihmaa.Pr
open Go.RowKit Go.Proofs.YtfjhlcbpogihmaaW.PrintWords Go.Proofs.YtfjhlcbpogihmaaW.PrintLast Go.Proofs.YtfjhlcbpogihmaaW.PrintMore
attribute [local go_sem] max2_int min2_int max_two min_two max_three min_three max_four min_four
set_option linter.unusedVariables false
set_option linter.unusedSimpArgs false
theorem eqA75 (d : Nat) (w : World) (x0 y0 : Int) (x1 y1 : ByteArray) :
    (Op.equalIn (d + 2) 75 (.agg #[.int .u64 x0, .string x1]) (.agg #[.int .u64 y0, .string y1])).run Try.prog w = .ok (x0 == y0 && (x1.toList == y1.toList)) w := by
  refine eqA_of Try.underlying75 (by kernel_rfl) ?_
  refine eqf_cons (by rfl) (by go_simp; rfl) (by go_simp; rfl) (by go_simp) ?_
  exact eqf_last (by rfl) (by go_simp; rfl) (by go_simp; rfl) (by go_simp)
end Go.Proofs.Ytfjhlcbpogihmaa.Pr
end
section
namespace Go.Proofs.Ytfjhlcbpogihmaa.Pr
open Go.RowKit Go.Proofs.YtfjhlcbpogihmaaW.PrintWords Go.Proofs.YtfjhlcbpogihmaaW.PrintLast Go.Proofs.YtfjhlcbpogihmaaW.PrintMore
attribute [local go_sem] max2_int min2_int max_two min_two max_three min_three max_four min_four
set_option linter.unusedVariables false
set_option linter.unusedSimpArgs false
/-! ### tape_Read: function 49 -/
def tape_Read.f (a0_0 : ByteArray) (a0_1 : ByteArray) (a0_2 : Int) (a0_3 : Bool) : Option (ByteArray × Int) := if a0_3 = true then (some ((⟨#[]⟩ : ByteArray), 6)) else (if a0_0.size + a0_1.size ≤ 9223372036854775807 then (some (a0_0 ++ a0_1, 0)) else (none))
set_option maxHeartbeats 8000000 in
set_option maxRecDepth 100000 in
theorem tape_Read.calls (a0_0 : ByteArray) (a0_1 : ByteArray) (a0_2 : Int) (a0_3 : Bool) (r1 : ByteArray) (r2 : Int) (w : World) (h : tape_Read.f a0_0 a0_1 a0_2 a0_3 = some (r1, r2)) :
    Calls Try.prog 49 #[.agg #[.string a0_0, .string a0_1, .int .i64 a0_2, .bool a0_3]] w fun e w' => e = .returned (.tuple #[.string r1, .int .i64 r2]) ∧ Below w.heap.size w w' := by
  have hu34 := Try.underlying34
  have HB := Aside0.mk (Below.refl w.heap.size w)
  have H : (if a0_3 = true then (some ((⟨#[]⟩ : ByteArray), 6)) else (if a0_0.size + a0_1.size ≤ 9223372036854775807 then (some (a0_0 ++ a0_1, 0)) else (none))) = some (r1, r2) := h
  clear h
  by_cases c2 : a0_3 = true
  · subst c2
    have H1 : (some ((⟨#[]⟩ : ByteArray), 6)) = some (r1, r2) := by rw [if_pos rfl] at H; exact H
    clear H
    have H := H1
    clear H1
    simp only [Option.some.injEq, Prod.mk.injEq] at H
    obtain ⟨rfl, rfl⟩ := H
    go_enter Try.func49, Try.ntmps49
    go_wp2_with (first | ((with_reducible refine gate_dst (N := 1) rfl ?_); refine box_event ?hg (N := 1) ?hd (cs := #[.string a0_0, .string a0_1, .int .i64 a0_2, .bool true]) (t := 34) ?hr ?_; (case hd => rfl); (case hg => rfl); (case hr => first | (go_simp; done) | (go_simp; rfl)); intro gb208 hg w3 hbox hb; have n0_ := Aside0.mk (below_step (by repeat (first | (with_reducible first | exact HB.out | apply below_alloc | apply pw_below_drewN | apply below_drew1) | exact HB.out | exact Below.refl _ _)) hb); have n1_ := Aside0.mk (hbox); have n2_ := Aside0.mk ((by rw [hg]; exact (below_size (by repeat (first | (with_reducible first | exact HB.out | apply below_alloc | apply pw_below_drewN | apply below_drew1) | exact HB.out))) : w.heap.size ≤ gb208)); have n3_ := Aside0.mk ((by rw [hg]; exact (below_size (by repeat (first | (with_reducible first | exact HB.out | apply below_alloc | apply pw_below_drewN | apply below_drew1) | exact HB.out))) : w.heap.size ≤ gb208)); clear HB; have HB := n0_; have BK208 := n1_; have GW208 := n2_; have GE208 := n3_; clear n0_ n1_ n2_ n3_; clear hb hbox hg; have hcz4_0 : w3.cell? ⟨gb208, 0, none⟩ = some (.string a0_0) := (blk_cell BK208.out 0).trans rfl; have hcz4_1 : w3.cell? ⟨gb208, 1, none⟩ = some (.string a0_1) := (blk_cell BK208.out 1).trans rfl; have hcz4_2 : w3.cell? ⟨gb208, 2, none⟩ = some (.int .i64 a0_2) := (blk_cell BK208.out 2).trans rfl; have hcz4_3 : w3.cell? ⟨gb208, 3, none⟩ = some (.bool true) := (blk_cell BK208.out 3).trans rfl; have hfz4_0 := blk_frozen BK208.out 0; have hfz4_1 := blk_frozen BK208.out 1; have hfz4_2 := blk_frozen BK208.out 2; have hfz4_3 := blk_frozen BK208.out 3))
    go_ret2
    exact ⟨by first | rfl | (simp [errW_none, errW_some] <;> rfl) | (simp [*, errW_none, errW_some] <;> rfl), by repeat (first | (with_reducible first | exact HB.out | apply below_alloc | apply pw_below_drewN | apply below_drew1 | refine below_set ?_ GE208.out) | exact HB.out)⟩
  · replace c2 := Bool.eq_false_iff.mpr c2
    subst c2
    have H1 : (if a0_0.size + a0_1.size ≤ 9223372036854775807 then (some (a0_0 ++ a0_1, 0)) else (none)) = some (r1, r2) := by rw [if_neg (show ¬ (false = true) by decide)] at H; exact H
    clear H
    have H := H1
    clear H1
    by_cases c5 : a0_0.size + a0_1.size ≤ 9223372036854775807
    · rw [if_pos c5] at H
      have c5b0 := eq_true c5
      have c5b1 : decide (a0_0.size + a0_1.size ≤ 9223372036854775807) = true := decide_eq_true c5
      try have c5b2 : (9223372036854775807 < a0_0.size + a0_1.size) = False := eq_false (Nat.not_lt.2 c5)
      simp only [Option.some.injEq, Prod.mk.injEq] at H
      obtain ⟨rfl, rfl⟩ := H
      go_enter Try.func49, Try.ntmps49
      go_wp2_with (first | ((with_reducible refine gate_dst (N := 1) rfl ?_); refine box_event ?hg (N := 1) ?hd (cs := #[.string a0_0, .string a0_1, .int .i64 a0_2, .bool false]) (t := 34) ?hr ?_; (case hd => rfl); (case hg => rfl); (case hr => first | (go_simp; done) | (go_simp; rfl)); intro gb208 hg w6 hbox hb; have n0_ := Aside0.mk (below_step (by repeat (first | (with_reducible first | exact HB.out | apply below_alloc | apply pw_below_drewN | apply below_drew1) | exact HB.out | exact Below.refl _ _)) hb); have n1_ := Aside0.mk (hbox); have n2_ := Aside0.mk ((by rw [hg]; exact (below_size (by repeat (first | (with_reducible first | exact HB.out | apply below_alloc | apply pw_below_drewN | apply below_drew1) | exact HB.out))) : w.heap.size ≤ gb208)); have n3_ := Aside0.mk ((by rw [hg]; exact (below_size (by repeat (first | (with_reducible first | exact HB.out | apply below_alloc | apply pw_below_drewN | apply below_drew1) | exact HB.out))) : w.heap.size ≤ gb208)); clear HB; have HB := n0_; have BK208 := n1_; have GW208 := n2_; have GE208 := n3_; clear n0_ n1_ n2_ n3_; clear hb hbox hg; have hcz7_0 : w6.cell? ⟨gb208, 0, none⟩ = some (.string a0_0) := (blk_cell BK208.out 0).trans rfl; have hcz7_1 : w6.cell? ⟨gb208, 1, none⟩ = some (.string a0_1) := (blk_cell BK208.out 1).trans rfl; have hcz7_2 : w6.cell? ⟨gb208, 2, none⟩ = some (.int .i64 a0_2) := (blk_cell BK208.out 2).trans rfl; have hcz7_3 : w6.cell? ⟨gb208, 3, none⟩ = some (.bool false) := (blk_cell BK208.out 3).trans rfl; have hfz7_0 := blk_frozen BK208.out 0; have hfz7_1 := blk_frozen BK208.out 1; have hfz7_2 := blk_frozen BK208.out 2; have hfz7_3 := blk_frozen BK208.out 3))
      go_ret2
      exact ⟨by first | rfl | (simp [errW_none, errW_some] <;> rfl) | (simp [*, errW_none, errW_some] <;> rfl), by repeat (first | (with_reducible first | exact HB.out | apply below_alloc | apply pw_below_drewN | apply below_drew1 | refine below_set ?_ GE208.out) | exact HB.out)⟩
    · rw [if_neg c5] at H
      exact absurd H (by simp)
end Go.Proofs.Ytfjhlcbpogihmaa.Pr
end
section
namespace Go.Proofs.Ytfjhlcbpogihmaa.Pr
open Go.RowKit Go.Proofs.YtfjhlcbpogihmaaW.PrintWords Go.Proofs.YtfjhlcbpogihmaaW.PrintLast Go.Proofs.YtfjhlcbpogihmaaW.PrintMore
open Go.Proofs.Ytfjhlcbpogihmaa.Hnd
attribute [local go_sem] setCell_drewN_ alloc_drewN_
set_option linter.unusedVariables false
set_option linter.unusedSimpArgs false
/-- The two halves behind the first n bytes. -/
def half (s : ByteArray) : Nat → Int × Int
  | 0 => (1, 0)
  | n + 1 => (((half s n).1 + bt s n) % 65521, ((half s n).2 + ((half s n).1 + bt s n) % 65521) % 65521)
def sumI (s : ByteArray) : Int := (half s s.size).2 * 65536 + (half s s.size).1
theorem half_range (s : ByteArray) : ∀ n, 0 ≤ (half s n).1 ∧ (half s n).1 < 65521 ∧ 0 ≤ (half s n).2 ∧ (half s n).2 < 65521
  | 0 => by simp [half]
  | n + 1 => by
    simp only [half]
    omega
theorem wrap64_big {x : Int} (h0 : 0 ≤ x) (h1 : x ≤ 4611686018427387905) : wrap64 x = x := by
  simp [wrap64]
  omega
def seal_Sum.f (a0 : ByteArray) : Option Int := if a0.size ≤ 4611686018427387904 then some (sumI a0) else none
set_option maxHeartbeats 1000000 in
set_option maxRecDepth 100000 in
theorem seal_Sum.calls (a0 : ByteArray) (r : Int) (w : World) (h : seal_Sum.f a0 = some r) : Calls Try.prog 79 #[.string a0] w fun e w' => e = .returned (.int .u32 r) ∧ Below w.heap.size w w' := by
  unfold seal_Sum.f at h
  by_cases hs : a0.size ≤ 4611686018427387904
  rotate_left
  · rw [if_neg hs] at h; cases h
  rw [if_pos hs] at h
  obtain rfl := Option.some.inj h
  clear h
  have HS := Aside0.mk hs
  clear hs
  go_enter Try.func79, Try.ntmps79
  go_wp2_with fail
  go_loopg [8] a0.size (fun g v8 wr => ∃ i : Nat, v8 = .int .i64 (i : Int) ∧ Aside0 (i ≤ a0.size ∧ a0.size - i ≤ g) ∧ Aside0 (wr.heap[w.heap.size]? = some (.cells #[.int .u32 (half a0 i).1, .int .u32 (half a0 i).2] 140 (0, 0))) ∧ Aside0 (Below w.heap.size w wr))
  case atStart =>
    refine ⟨0, rfl, ⟨by omega⟩, ⟨?_⟩, ⟨?_⟩⟩
    · exact blk_new w _
    · exact (Below.refl w.heap.size w).alloc (Nat.le_refl _) _
  case round =>
    obtain ⟨i, rfl, HI, HK, HB⟩ := hrel
    obtain ⟨x, y, hxy⟩ : ∃ x y, half a0 i = (x, y) := ⟨_, _, rfl⟩
    have hr := half_range a0 i
    rw [hxy] at HK hr
    have kb := fun o => blk_cell HK.out o
    have fb := fun o => blk_frozen HK.out o
    have zb := blk_lt HK.out
    have kb0 := kb 0
    have kb1 := kb 1
    by_cases hlt : (i : Int) < a0.size
    · have hltb := decide_eq_true hlt
      have hnat : i < a0.size := by omega
      have hbt : ((a0[i]'hnat).toNat : Int) = bt a0 i := bt_at a0 (i : Int) hnat
      have hbr := bt_range a0 i
      have hm1 : (x + bt a0 i) % 4294967296 % 65521 = (x + bt a0 i) % 65521 := by omega
      have hm2 : (y + (x + bt a0 i) % 65521) % 4294967296 % 65521 = (y + (x + bt a0 i) % 65521) % 65521 := by omega
      go_upto_region 5 with (fail)
      go_region
      have HK1 := Aside0.mk (blk_drew (blk_put (cs' := #[.int .u32 ((x + bt a0 i) % 65521), .int .u32 y]) HK.out 0 (.int .u32 ((x + bt a0 i) % 65521)) rfl))
      have HB1 := Aside0.mk ((HB.out.setCell (p := ⟨w.heap.size, 0, none⟩) (Nat.le_refl _) (.int .u32 ((x + bt a0 i) % 65521))).drew)
      clear kb fb zb kb0 kb1 HK HB
      obtain ⟨W1, hW⟩ : ∃ W1, (wr.setCell ⟨w.heap.size, 0, none⟩ (.int .u32 ((x + bt a0 i) % 65521))).drew = W1 := ⟨_, rfl⟩
      rw [hW] at HK1 HB1 ⊢
      clear hW
      obtain ⟨x1, hx1⟩ : ∃ x1, (x + bt a0 i) % 65521 = x1 := ⟨_, rfl⟩
      have hrx : 0 ≤ x1 ∧ x1 < 65521 := by omega
      have HX := Aside0.mk hx1
      rw [hx1] at HK1 hm2 ⊢
      clear hx1 hm1
      have kb := fun o => blk_cell HK1.out o
      have fb := fun o => blk_frozen HK1.out o
      have zb := blk_lt HK1.out
      have kb0 := kb 0
      have kb1 := kb 1
      go_wp2
      go_roundg (gk - 1)
      case measure => have := HI.out; omega
      case rel =>
        have hm3 : (y + x1) % 65521 = (half a0 (i + 1)).2 := by simp only [half, hxy]; rw [HX.out]
        have hm4 : x1 = (half a0 (i + 1)).1 := by simp only [half, hxy]; exact HX.out.symm
        refine ⟨i + 1, ?_, ⟨by have := HI.out; omega⟩, ⟨?_⟩, ⟨?_⟩⟩
        · rw [wrap64_big (by omega) (by have := HS.out; omega)]
          rfl
        · rw [← hm3, ← hm4]
          exact blk_put (cs' := #[.int .u32 x1, .int .u32 ((y + x1) % 65521)]) HK1.out 1 _ rfl
        · exact HB1.out.setCell (p := ⟨w.heap.size, 1, none⟩) (Nat.le_refl _) _
    · have hltb := decide_eq_false hlt
      have hie : i = a0.size := by have := HI.out; omega
      have hor : Go.bits .or .u32 (y * 65536) x = sumI a0 := by
        rw [bits_join .u32 32 (by decide) (fun n h0 h1 => by rw [show IntKind.u32.wrap n = n % 4294967296 by simp [IntKind.wrap, IntKind.bits, IntKind.signed]]; omega) 16 _ _ (by omega) (by omega) (by omega) (by omega) (by omega) (by omega)]
        unfold sumI
        rw [← hie, hxy]
      go_wp2
      go_ret
      exact ⟨rfl, HB.out⟩
end Go.Proofs.Ytfjhlcbpogihmaa.Pr
end
section
namespace Go.Proofs.Ytfjhlcbpogihmaa.Pr
open Go.RowKit Go.Proofs.YtfjhlcbpogihmaaW.PrintWords Go.Proofs.YtfjhlcbpogihmaaW.PrintLast Go.Proofs.YtfjhlcbpogihmaaW.PrintMore
attribute [local go_sem] max2_int min2_int max_two min_two max_three min_three max_four min_four
set_option linter.unusedVariables false
set_option linter.unusedSimpArgs false
theorem eqA39 (d : Nat) (w : World) (x0 y0 : Int) (x1 y1 : Int) (x2 y2 : Int) (x3 y3 : Int) (x4 y4 : ByteArray) :
    (Op.equalIn (d + 2) 39 (.agg #[.int .i64 x0, .int .u64 x1, .int .u64 x2, .int .u64 x3, .string x4]) (.agg #[.int .i64 y0, .int .u64 y1, .int .u64 y2, .int .u64 y3, .string y4])).run Try.prog w = .ok (x0 == y0 && (x1 == y1 && (x2 == y2 && (x3 == y3 && (x4.toList == y4.toList))))) w := by
  refine eqA_of Try.underlying39 (by kernel_rfl) ?_
  refine eqf_cons (by rfl) (by go_simp; rfl) (by go_simp; rfl) (by go_simp) ?_
  refine eqf_cons (by rfl) (by go_simp; rfl) (by go_simp; rfl) (by go_simp) ?_
  refine eqf_cons (by rfl) (by go_simp; rfl) (by go_simp; rfl) (by go_simp) ?_
  refine eqf_cons (by rfl) (by go_simp; rfl) (by go_simp; rfl) (by go_simp) ?_
  exact eqf_last (by rfl) (by go_simp; rfl) (by go_simp; rfl) (by go_simp)
end Go.Proofs.Ytfjhlcbpogihmaa.Pr
end
section
namespace Go.Proofs.Ytfjhlcbpogihmaa.Pr
open Go.RowKit Go.Proofs.YtfjhlcbpogihmaaW.PrintWords Go.Proofs.YtfjhlcbpogihmaaW.PrintLast Go.Proofs.YtfjhlcbpogihmaaW.PrintMore
theorem row_blk {w : World} {g g' : Nat} {o : Obj} (h : w.heap[g']? = some o) (hn : g' ≠ g) (c : Array Value) : (w.setRow g c).heap[g']? = some o := (setRow_other w g g' c hn).trans h
theorem row_below {B : Nat} {a w : World} {g : Nat} (h : Below B a w) (hg : B ≤ g) (c : Array Value) : Below B a (w.setRow g c) :=
  h.trans ⟨rfl, rfl, rfl, by simp, fun k hk => setRow_other w g k c (by omega)⟩
theorem row_cell {w : World} {g : Nat} {p : Addr} (hn : p.block ≠ g) (c : Array Value) : (w.setRow g c).cell? p = w.cell? p := by
  unfold World.cell?
  rw [setRow_other w g p.block c hn]
theorem row_R {α : Type} {d : Kd α} {e : Nat} {w : World} {base : Nat} {ok : Nat → Prop} {v : Value} {xs : List α} (h : Kd.R d e w base ok v xs) {g t : Nat} {cells : Array Value} (hb : w.heap[g]? = some (.cells cells t (0, 0))) (ht : ∀ q, q ∈ e :: d.E → q ≠ t) (c : Array Value) : Kd.R d e (w.setRow g c) base ok v xs :=
  Kd.R_mono (Kd.R_step (Kd.R_types h hb ht) (fun k ho _ => setRow_other w g k c ho.2)) (fun _ hk => hk.1)
theorem exec_storeR {P : Program} {ev : Operand → Value} {o : Oper} {ty : TypeId} {d s : Operand} {w : World} {g : Nat} {t : TypeId} {as_ bs : List Value}
    (ho : o.op = .store ty d s) (hd : ev d = .pointer (some ⟨g, 0, none⟩)) (hs : ev s = .agg bs.toArray) (h : w.heap[g]? = some (.cells as_.toArray t (0, 0)))
    (hi : (P.info? ty).map (·.size) = some bs.length) (hl : as_.length = bs.length) (h1 : bs.all (·.oneCell') = true) : Sem.run P (execOp ev o) w = .ok .skip (w.setRow g bs.toArray) := by
  have hr := run_storeVar_row (P := P) w g t ty as_.toArray bs.toArray h (by simpa using hi) (by simpa using hl) (by rw [← Array.all_toList]; exact h1)
  unfold execOp
  simp only [ho, hd, hs, Instr.storeAt, Instr.sureAddr, Sem.run_bind, Sem.run_pure, Result.andThen_ok, hr]
end Go.Proofs.Ytfjhlcbpogihmaa.Pr
end
section
namespace Go.Proofs.Ytfjhlcbpogihmaa.Pr
open Go.RowKit Go.Proofs.Ytfjhlcbpogihmaa.Opn Go.Proofs.YtfjhlcbpogihmaaW.PrintWords Go.Proofs.YtfjhlcbpogihmaaW.PrintLast Go.Proofs.YtfjhlcbpogihmaaW.PrintMore
set_option maxRecDepth 100000
def q75 (x : S75) : Prop := ((Lit.int .u64 x.f0).wf = true) ∧ (x.f1.size ≤ 140737488351232)
theorem o75 : Opn Try.prog 75 k75 q75 := opn_struct (fun x : S75 => (x.f0, x.f1)) (fun y => (⟨y.1, y.2⟩ : S75)) (fun _ => rfl) Try.underlying75 rfl (tot := 2) (by kernel_rfl) (opnF_cons (opn_int Try.underlying25) rfl (off' := 1) (by kernel_rfl) (opnF_last (opn_string Try.underlying9) rfl (by kernel_rfl)))
def q28 (x : S28) : Prop := ((Lit.int .u64 x.f0).wf = true) ∧ ((Lit.int .u64 x.f1).wf = true) ∧ (x.f2.size ≤ 140737488351232) ∧ (x.f3.length ≤ maxLen ∧ x.f3.length * 24 ≤ 140737488351232 ∧ ∀ y, y ∈ x.f3 → q75 y)
theorem o28 : Opn Try.prog 28 k28 q28 := opn_struct (fun x : S28 => (x.f0, x.f1, x.f2, x.f3)) (fun y => (⟨y.1, y.2.1, y.2.2.1, y.2.2.2⟩ : S28)) (fun _ => rfl) Try.underlying28 rfl (tot := 4) (by kernel_rfl) (opnF_cons (opn_int Try.underlying25) rfl (off' := 1) (by kernel_rfl) (opnF_cons (opn_int Try.underlying25) rfl (off' := 2) (by kernel_rfl) (opnF_cons (opn_string Try.underlying9) rfl (off' := 3) (by kernel_rfl) (opnF_last (opn_slice Try.underlying26 (by kernel_rfl) (B := 24) (by kernel_rfl) o75) rfl (by kernel_rfl)))))
def q30 (x : S30) : Prop := ((Lit.int .u64 x.f0).wf = true) ∧ ((Lit.int .u64 x.f1).wf = true) ∧ (q28 x.f2)
theorem o30 : Opn Try.prog 30 k30 q30 := opn_struct (fun x : S30 => (x.f0, x.f1, x.f2)) (fun y => (⟨y.1, y.2.1, y.2.2⟩ : S30)) (fun _ => rfl) Try.underlying30 rfl (tot := 6) (by kernel_rfl) (opnF_cons (opn_int Try.underlying25) rfl (off' := 1) (by kernel_rfl) (opnF_cons (opn_int Try.underlying25) rfl (off' := 2) (by kernel_rfl) (opnF_last o28 rfl (by kernel_rfl))))
end Go.Proofs.Ytfjhlcbpogihmaa.Pr
end
section
namespace Go.Proofs.Ytfjhlcbpogihmaa.Pr
open Go.RowKit Go.Proofs.YtfjhlcbpogihmaaW.PrintWords Go.Proofs.YtfjhlcbpogihmaaW.PrintLast Go.Proofs.YtfjhlcbpogihmaaW.PrintMore
open Go.Proofs.Ytfjhlcbpogihmaa.Hnd
attribute [local go_sem] setCell_drewN_ alloc_drewN_
attribute [local go_sem] max2_int min2_int max_two min_two
set_option linter.unusedVariables false
set_option linter.unusedSimpArgs false
def tape_Write.f (a0_0 a0_1 : ByteArray) (a0_2 : Int) (a0_3 : Bool) (a1 : ByteArray) : Option (ByteArray × ByteArray × Int × Bool × Int) :=
  if a0_0.size + a0_1.size + a1.size ≤ 4611686018427387904 then (if a0_3 = true then some (a0_0, a0_1, a0_2, true, 6) else if (a0_0.size : Int) + a0_1.size + a1.size > 262144 then some (a0_0, a0_1, a0_2, false, 5) else if a0_2 = 0 then some (a0_0, a0_1, 0, true, 6) else if 0 < a0_2 then some (a0_0, a0_1 ++ a1, wrap64 (a0_2 - 1), false, 0) else some (a0_0, a0_1 ++ a1, a0_2, false, 0)) else none
def tape_Sync.f (a0_0 a0_1 : ByteArray) (a0_2 : Int) (a0_3 : Bool) : Option (ByteArray × ByteArray × Int × Bool × Int) :=
  if a0_0.size + a0_1.size ≤ 4611686018427387904 then (if a0_3 = true then some (a0_0, a0_1, a0_2, true, 6) else if a0_2 = 0 then some (a0_0, a0_1, 0, true, 6) else if 0 < a0_2 then some (a0_0 ++ a0_1, (⟨#[]⟩ : ByteArray), wrap64 (a0_2 - 1), false, 0) else some (a0_0 ++ a0_1, (⟨#[]⟩ : ByteArray), a0_2, false, 0)) else none
def ferruleref03_Write.f (a0_0 a0_1 : ByteArray) (a0_2 : Int) (a0_3 : Bool) (a1 : ByteArray) : Option (ByteArray × ByteArray × Int × Bool × Int) := tape_Write.f a0_0 a0_1 a0_2 a0_3 a1
def ferruleref03_Sync.f (a0_0 a0_1 : ByteArray) (a0_2 : Int) (a0_3 : Bool) : Option (ByteArray × ByteArray × Int × Bool × Int) := tape_Sync.f a0_0 a0_1 a0_2 a0_3
def crashI (a0_0 a0_1 : ByteArray) (a1 : Int) : Option (ByteArray × ByteArray × Int × Bool) := if a0_0.size + a0_1.size ≤ 4611686018427387904 then some (a0_0 ++ a0_1.extract 0 (mn (mx a1 0) (a0_1.size : Int)).toNat, (⟨#[]⟩ : ByteArray), -1, false) else none
def ferruleref03_Crash.f (a0_0 a0_1 : ByteArray) (a0_2 : Int) (a0_3 : Bool) (a1 : Int) : Option (ByteArray × ByteArray × Int × Bool) := crashI a0_0 a0_1 a1
end Go.Proofs.Ytfjhlcbpogihmaa.Pr
end
section
end
section
end
section
end
section
namespace Go.Proofs.Ytfjhlcbpogihmaa.Pr
open Go.RowKit Go.Proofs.YtfjhlcbpogihmaaW.PrintWords Go.Proofs.YtfjhlcbpogihmaaW.PrintLast Go.Proofs.YtfjhlcbpogihmaaW.PrintMore
attribute [local go_sem] max2_int min2_int max_two min_two max_three min_three max_four min_four
set_option linter.unusedVariables false
set_option linter.unusedSimpArgs false
attribute [local go_sem high] eqA39
/-! ### ferruleref04_Notes: function 24 -/
def ferruleref04_Notes.l0 : Nat → List (S39) → List (S39) → Int → Option (Bool)
  | 0, _, _, _ => none
  | k + 1, x0, x1, x5 => if x5 < (x0.length : Int) then (if 0 ≤ x5 then (if x5 < (x1.length : Int) then (if (!(((rd_T39 x0 x5).f0) == ((rd_T39 x1 x5).f0)) || (!(((rd_T39 x0 x5).f1) == ((rd_T39 x1 x5).f1)) || (!(((rd_T39 x0 x5).f2) == ((rd_T39 x1 x5).f2)) || (!(((rd_T39 x0 x5).f3) == ((rd_T39 x1 x5).f3)) || (!((((rd_T39 x0 x5).f4).toList) == (((rd_T39 x1 x5).f4).toList))))))) = true then (some false) else (ferruleref04_Notes.l0 k x0 x1 (wrap64 (x5 + 1)))) else (none)) else (none)) else (some true)
def ferruleref04_Notes.f (k : Nat) (l0 : List (S39)) (l1 : List (S39)) : Option (Bool) := if (l0.length : Int) = (l1.length : Int) then (ferruleref04_Notes.l0 k l0 l1 0) else (some false)
end Go.Proofs.Ytfjhlcbpogihmaa.Pr
end
section
namespace Go.Proofs.Ytfjhlcbpogihmaa.Pr
open Go.RowKit Go.Proofs.YtfjhlcbpogihmaaW.PrintWords Go.Proofs.YtfjhlcbpogihmaaW.PrintLast Go.Proofs.YtfjhlcbpogihmaaW.PrintMore
attribute [local go_sem] max2_int min2_int max_two min_two max_three min_three max_four min_four
set_option linter.unusedVariables false
set_option linter.unusedSimpArgs false
/-! ### ferruleref01_Size: function 87 -/
def ferruleref01_Size.f (a0 : Int) : Option (Int) := if a0 < 64 then (some 1) else (if a0 < 16384 then (some 2) else (if a0 < 1073741824 then (some 4) else (if a0 < 4611686018427387904 then (some 8) else (some 0))))
end Go.Proofs.Ytfjhlcbpogihmaa.Pr
end
section
namespace Go.Proofs.Ytfjhlcbpogihmaa.Pr
open Go.RowKit Go.Proofs.YtfjhlcbpogihmaaW.PrintWords Go.Proofs.YtfjhlcbpogihmaaW.PrintLast Go.Proofs.YtfjhlcbpogihmaaW.PrintMore
attribute [local go_sem] max2_int min2_int max_two min_two max_three min_three max_four min_four
set_option linter.unusedVariables false
set_option linter.unusedSimpArgs false
/-! ### ferruleref01_TakeNum: function 75 -/
mutual
def ferruleref01_TakeNum.l0 : Nat → ByteArray → Int → Int → Option (Int × ByteArray × Int)
  | 0, _, _, _ => none
  | k + 1, x0, x5, x6 => if 0 < (x0.size : Int) then (if x6 < ((Int.tdiv (bt x0 0) 64) % 256) then (ferruleref01_TakeNum.l0 k x0 (wrap64 (x5 * 2)) ((x6 + 1) % 256)) else (if (x0.size : Int) < x5 then (some (0, (⟨#[]⟩ : ByteArray), 2)) else (ferruleref01_TakeNum.l1 k x0 x5 (IntKind.u64.wrap (Int.tmod (bt x0 0) 64)) 1))) else (none)
def ferruleref01_TakeNum.l1 : Nat → ByteArray → Int → Int → Int → Option (Int × ByteArray × Int)
  | 0, _, _, _, _ => none
  | k + 1, x0, x5, x7, x8 => if x8 < x5 then (if 0 ≤ x8 then (if x8 < (x0.size : Int) then (ferruleref01_TakeNum.l1 k x0 x5 (IntKind.u64.wrap ((IntKind.u64.wrap (x7 * 256)) + (IntKind.u64.wrap (bt x0 x8)))) (wrap64 (x8 + 1))) else (none)) else (none)) else ((ferruleref01_Size.f x7).bind fun t486 => (if t486 = x5 then (if 0 ≤ x5 then (if x5 ≤ (x0.size : Int) then (some (x7, x0.extract (x5 : Int).toNat x0.size, 0)) else (none)) else (none)) else (some (0, (⟨#[]⟩ : ByteArray), 3))))
end
def ferruleref01_TakeNum.f (k : Nat) (a0 : ByteArray) : Option (Int × ByteArray × Int) := if (a0.size : Int) = 0 then (some (0, (⟨#[]⟩ : ByteArray), 2)) else (ferruleref01_TakeNum.l0 k a0 1 0)
theorem ferruleref01_TakeNum.mono_l : ∀ k, (∀ y0 y1 y2, LeO (ferruleref01_TakeNum.l0 k y0 y1 y2) (ferruleref01_TakeNum.l0 (k + 1) y0 y1 y2)) ∧ (∀ y0 y1 y2 y3, LeO (ferruleref01_TakeNum.l1 k y0 y1 y2 y3) (ferruleref01_TakeNum.l1 (k + 1) y0 y1 y2 y3))
  | 0 => ⟨fun _ _ _ r h => by simp [ferruleref01_TakeNum.l0] at h, fun _ _ _ _ r h => by simp [ferruleref01_TakeNum.l1] at h⟩
  | k + 1 => by
    obtain ⟨ih0, ih1⟩ := ferruleref01_TakeNum.mono_l k
    refine ⟨?_, ?_⟩
    · intro y0 y1 y2
      unfold ferruleref01_TakeNum.l0
      repeat' first
      | (with_reducible exact ih0 _ _ _)
      | (with_reducible exact ih1 _ _ _ _)
      | (with_reducible exact LeO.refl _)
      | (with_reducible exact LeO.none _)
      | (with_reducible refine LeO.ite ?_ ?_)
      | (with_reducible refine LeO.bind ?_ (fun _ => ?_))
      | exact ih0 _ _ _
      | exact ih1 _ _ _ _
      | exact LeO.none _
      | refine LeO.ite ?_ ?_
      | refine LeO.bind ?_ (fun _ => ?_)
    · intro y0 y1 y2 y3
      unfold ferruleref01_TakeNum.l1
      repeat' first
      | (with_reducible exact ih0 _ _ _)
      | (with_reducible exact ih1 _ _ _ _)
      | (with_reducible exact LeO.refl _)
      | (with_reducible exact LeO.none _)
      | (with_reducible refine LeO.ite ?_ ?_)
      | (with_reducible refine LeO.bind ?_ (fun _ => ?_))
      | exact ih0 _ _ _
      | exact ih1 _ _ _ _
      | exact LeO.none _
      | refine LeO.ite ?_ ?_
      | refine LeO.bind ?_ (fun _ => ?_)
theorem ferruleref01_TakeNum.mono : ∀ a0 k, LeO (ferruleref01_TakeNum.f k a0) (ferruleref01_TakeNum.f (k + 1) a0) := by
  intro a0 k
  obtain ⟨ih0, ih1⟩ := ferruleref01_TakeNum.mono_l k
  unfold ferruleref01_TakeNum.f
  repeat' first
      | (with_reducible exact ih0 _ _ _)
      | (with_reducible exact ih1 _ _ _ _)
      | (with_reducible exact LeO.refl _)
      | (with_reducible exact LeO.none _)
      | (with_reducible refine LeO.ite ?_ ?_)
      | (with_reducible refine LeO.bind ?_ (fun _ => ?_))
      | exact ih0 _ _ _
      | exact ih1 _ _ _ _
      | exact LeO.none _
      | refine LeO.ite ?_ ?_
      | refine LeO.bind ?_ (fun _ => ?_)
end Go.Proofs.Ytfjhlcbpogihmaa.Pr
end
section
namespace Go.Proofs.Ytfjhlcbpogihmaa.Pr
open Go.RowKit Go.Proofs.YtfjhlcbpogihmaaW.PrintWords Go.Proofs.YtfjhlcbpogihmaaW.PrintLast Go.Proofs.YtfjhlcbpogihmaaW.PrintMore
attribute [local go_sem] max2_int min2_int max_two min_two max_three min_three max_four min_four
set_option linter.unusedVariables false
set_option linter.unusedSimpArgs false
/-! ### ferruleref01_Num: function 61 -/
mutual
def ferruleref01_Num.j0 : Nat → Int → Int → Int → Option (ByteArray × Int)
  | 0, _, _, _ => none
  | k + 1, x0, x4, x5 => if x4 = 4 then (ferruleref01_Num.j1 k x0 x4 2147483648) else (ferruleref01_Num.j1 k x0 x4 x5)
def ferruleref01_Num.j1 : Nat → Int → Int → Int → Option (ByteArray × Int)
  | 0, _, _, _ => none
  | k + 1, x0, x4, x5 => if x4 = 8 then (ferruleref01_Num.j2 k x0 x4 13835058055282163712) else (ferruleref01_Num.j2 k x0 x4 x5)
def ferruleref01_Num.j2 : Nat → Int → Int → Int → Option (ByteArray × Int)
  | 0, _, _, _ => none
  | k + 1, x0, x4, x5 => ferruleref01_Num.l0 k (IntKind.u64.wrap (x0 + x5)) x4 (⟨#[]⟩ : ByteArray) 0
def ferruleref01_Num.l0 : Nat → Int → Int → ByteArray → Int → Option (ByteArray × Int)
  | 0, _, _, _, _ => none
  | k + 1, x0, x4, x6, x7 => if x7 < x4 then ((some (([(Int.tmod x0 256) % 256] : List Int) : List Int)).bind fun y402 => (if (strOfNums y402).size + x6.size ≤ 9223372036854775807 then (ferruleref01_Num.l0 k (IntKind.u64.wrap (Int.tdiv x0 256)) x4 ((strOfNums y402) ++ x6) (wrap64 (x7 + 1))) else (none))) else (some (x6, 0))
end
def ferruleref01_Num.f (k : Nat) (a0 : Int) : Option (ByteArray × Int) := (ferruleref01_Size.f a0).bind fun t401 => (if t401 = 0 then (some ((⟨#[]⟩ : ByteArray), 4)) else (if t401 = 2 then (ferruleref01_Num.j0 k a0 t401 16384) else (ferruleref01_Num.j0 k a0 t401 0)))
end Go.Proofs.Ytfjhlcbpogihmaa.Pr
end
section
namespace Go.Proofs.Ytfjhlcbpogihmaa.Pr
open Go.RowKit Go.Proofs.YtfjhlcbpogihmaaW.PrintWords Go.Proofs.YtfjhlcbpogihmaaW.PrintLast Go.Proofs.YtfjhlcbpogihmaaW.PrintMore
open Go.Proofs.Ytfjhlcbpogihmaa.Hnd
attribute [local go_sem] setCell_drewN_ alloc_drewN_
set_option linter.unusedVariables false
set_option linter.unusedSimpArgs false
/-- A row of bytes of one's own that may bear a conversion's mark behind all its places. -/
def OwnM (w : World) (base : Nat) (v : Value) (l : List UInt8) : Prop :=
  ∃ g cap cur fz, v = .slice (some ⟨g, 0, none⟩) l.length cap ∧ base ≤ g ∧ w.heap[g]? = some (.cells cur 5 fz) ∧ (fz = (0, 0) ∨ cap ≤ fz.1) ∧ l.length ≤ cap ∧ cap ≤ maxLen ∧ cur.size = cap ∧ cur.toList.take l.length = Lib.byteCells l
theorem OwnM.cells {w : World} {base g n cap : Nat} {l : List UInt8} (h : OwnM w base (.slice (some ⟨g, 0, none⟩) n cap) l) : ∀ j u, (Lib.byteCells l)[j]? = some u → w.cell? ⟨g, j, none⟩ = some u := by
  intro j u hu
  obtain ⟨g', cap', cur, fz, e, _, hgg, _, _, _, hcs, htake⟩ := h
  injection e with e1 e2 e3
  injection e1 with e1
  injection e1 with e1 _ _
  subst e1
  rw [cell_of_row w g j cur 5 fz hgg]
  rw [← htake, List.getElem?_take] at hu
  split at hu
  · simpa using hu
  · cases hu
/-- The bytes of numbers, behind those that are there, as the document has it. -/
def rnumsF (k : Nat) : List Int → List UInt8 → Option (ByteArray × Int)
  | [], acc => some (⟨acc.toArray⟩, 0)
  | v :: r, acc => (ferruleref01_Num.f k v).bind fun b => if b.2 = 0 then (if acc.length + b.1.size ≤ 140737488355328 then rnumsF k r (acc ++ b.1.data.toList) else none) else some ((⟨#[]⟩ : ByteArray), b.2)
def ref_Nums.f (k : Nat) (l0 : List Int) : Option (ByteArray × Int) := if l0.length ≤ 1048576 then (ferruleref01_Num.f k (l0.length : Int)).bind fun b => (if b.1.size ≤ 140737488355328 then rnumsF k l0 b.1.data.toList else none) else none
end Go.Proofs.Ytfjhlcbpogihmaa.Pr
end
section
namespace Go.Proofs.Ytfjhlcbpogihmaa.Pr
open Go.RowKit Go.Proofs.YtfjhlcbpogihmaaW.PrintWords Go.Proofs.YtfjhlcbpogihmaaW.PrintLast Go.Proofs.YtfjhlcbpogihmaaW.PrintMore
attribute [local go_sem] max2_int min2_int max_two min_two max_three min_three max_four min_four
set_option linter.unusedVariables false
set_option linter.unusedSimpArgs false
/-! ### ferruleref01_Text: function 62 -/
def ferruleref01_Text.f (k : Nat) (a0 : ByteArray) : Option (ByteArray × Int) := if (a0.size : Int) > 4096 then (some ((⟨#[]⟩ : ByteArray), 4)) else ((ferruleref01_Num.f k (a0.size : Int)).bind fun bt405 => (if bt405.1.size + a0.size ≤ 9223372036854775807 then (some (bt405.1 ++ a0, 0)) else (none)))
/-! ### ferruleref02_four: function 88 -/
def ferruleref02_four.f (a0 : Int) : Option (ByteArray) := some (strOfNums (([((Int.tdiv a0 16777216) % 4294967296) % 256, ((Int.tdiv a0 65536) % 4294967296) % 256, ((Int.tdiv a0 256) % 4294967296) % 256, (Int.tmod a0 256) % 256] : List Int)))
end Go.Proofs.Ytfjhlcbpogihmaa.Pr
end
section
namespace Go.Proofs.Ytfjhlcbpogihmaa.Pr
open Go.RowKit Go.Proofs.YtfjhlcbpogihmaaW.PrintWords Go.Proofs.YtfjhlcbpogihmaaW.PrintLast Go.Proofs.YtfjhlcbpogihmaaW.PrintMore
attribute [local go_sem] max2_int min2_int max_two min_two max_three min_three max_four min_four
set_option linter.unusedVariables false
set_option linter.unusedSimpArgs false
/-! ### ferruleref01_TakeNums: function 74 -/
mutual
def ferruleref01_TakeNums.j0 : Nat → Int → ByteArray → Bool → Option (List Int × ByteArray × Int)
  | 0, _, _, _ => none
  | k + 1, x7, x8, x31 => if x31 = true then (some (([] : List Int), (⟨#[]⟩ : ByteArray), 4)) else (ferruleref01_TakeNums.l0 k x7 x8 ([] : List Int) 0)
def ferruleref01_TakeNums.l0 : Nat → Int → ByteArray → List Int → Int → Option (List Int × ByteArray × Int)
  | 0, _, _, _, _ => none
  | k + 1, x7, x8, x10, x11 => if x11 < x7 then ((ferruleref01_TakeNum.f k x8).bind fun bt495 => (if bt495.2.2 = 0 then (if x10.length < 17592186044416 then (ferruleref01_TakeNums.l0 k x7 bt495.2.1 (x10 ++ [bt495.1]) (IntKind.u64.wrap (x11 + 1))) else (none)) else (some (([] : List Int), (⟨#[]⟩ : ByteArray), bt495.2.2)))) else (some (x10, x8, 0))
end
def ferruleref01_TakeNums.f (k : Nat) (a0 : ByteArray) (a1 : Int) : Option (List Int × ByteArray × Int) := (ferruleref01_TakeNum.f k a0).bind fun bt492 => (if bt492.2.2 = 0 then (if a1 < 0 then (ferruleref01_TakeNums.j0 k bt492.1 bt492.2.1 true) else (ferruleref01_TakeNums.j0 k bt492.1 bt492.2.1 (decide (bt492.1 > (IntKind.u64.wrap (a1)))))) else (some (([] : List Int), (⟨#[]⟩ : ByteArray), bt492.2.2)))
end Go.Proofs.Ytfjhlcbpogihmaa.Pr
end
section
namespace Go.Proofs.Ytfjhlcbpogihmaa.Pr
open Go.RowKit Go.Proofs.YtfjhlcbpogihmaaW.PrintWords Go.Proofs.YtfjhlcbpogihmaaW.PrintLast Go.Proofs.YtfjhlcbpogihmaaW.PrintMore
attribute [local go_sem] max2_int min2_int max_two min_two max_three min_three max_four min_four
set_option linter.unusedVariables false
set_option linter.unusedSimpArgs false
/-! ### ferruleref01_TakeText: function 76 -/
def ferruleref01_TakeText.f (k : Nat) (a0 : ByteArray) : Option (ByteArray × ByteArray × Int) := (ferruleref01_TakeNum.f k a0).bind fun bt590 => (if bt590.2.2 = 0 then (if bt590.1 > 4096 then (some ((⟨#[]⟩ : ByteArray), (⟨#[]⟩ : ByteArray), 4)) else (if bt590.1 > (IntKind.u64.wrap ((bt590.2.1.size : Int))) then (some ((⟨#[]⟩ : ByteArray), (⟨#[]⟩ : ByteArray), 2)) else (if 0 ≤ bt590.1 then (if bt590.1 ≤ (bt590.2.1.size : Int) then (some (bt590.2.1.extract 0 (bt590.1 : Int).toNat, bt590.2.1.extract (bt590.1 : Int).toNat bt590.2.1.size, 0)) else (none)) else (none)))) else (some ((⟨#[]⟩ : ByteArray), (⟨#[]⟩ : ByteArray), bt590.2.2)))
end Go.Proofs.Ytfjhlcbpogihmaa.Pr
end
section
namespace Go.Proofs.Ytfjhlcbpogihmaa.Pr
open Go.RowKit Go.Proofs.YtfjhlcbpogihmaaW.PrintWords Go.Proofs.YtfjhlcbpogihmaaW.PrintLast Go.Proofs.YtfjhlcbpogihmaaW.PrintMore
attribute [local go_sem] max2_int min2_int max_two min_two max_three min_three max_four min_four
set_option linter.unusedVariables false
set_option linter.unusedSimpArgs false
/-! ### ferruleref02_Sum: function 89 -/
def ferruleref02_Sum.l0 : Nat → ByteArray → Int → Int → Int → Option (Int)
  | 0, _, _, _, _ => none
  | k + 1, x0, x3, x4, x5 => if x5 < (x0.size : Int) then (if 0 ≤ x5 then (ferruleref02_Sum.l0 k x0 (((x3 + ((bt x0 x5) % 4294967296)) % 4294967296) % 65521) (((x4 + (((x3 + ((bt x0 x5) % 4294967296)) % 4294967296) % 65521)) % 4294967296) % 65521) (wrap64 (x5 + 1))) else (none)) else (some ((((x4 * 65536) % 4294967296) + x3) % 4294967296))
def ferruleref02_Sum.f (k : Nat) (a0 : ByteArray) : Option (Int) := ferruleref02_Sum.l0 k a0 1 0 0
theorem ferruleref02_Sum.mono_l : ∀ k, (∀ y0 y1 y2 y3, LeO (ferruleref02_Sum.l0 k y0 y1 y2 y3) (ferruleref02_Sum.l0 (k + 1) y0 y1 y2 y3))
  | 0 => fun _ _ _ _ r h => by simp [ferruleref02_Sum.l0] at h
  | k + 1 => by
    have ih0 := ferruleref02_Sum.mono_l k
    · intro y0 y1 y2 y3
      unfold ferruleref02_Sum.l0
      repeat' first
      | (with_reducible exact ih0 _ _ _ _)
      | (with_reducible exact LeO.refl _)
      | (with_reducible exact LeO.none _)
      | (with_reducible refine LeO.ite ?_ ?_)
      | (with_reducible refine LeO.bind ?_ (fun _ => ?_))
      | exact ih0 _ _ _ _
      | exact LeO.none _
      | refine LeO.ite ?_ ?_
      | refine LeO.bind ?_ (fun _ => ?_)
theorem ferruleref02_Sum.mono : ∀ a0 k, LeO (ferruleref02_Sum.f k a0) (ferruleref02_Sum.f (k + 1) a0) := by
  intro a0 k
  have ih0 := ferruleref02_Sum.mono_l k
  unfold ferruleref02_Sum.f
  repeat' first
      | (with_reducible exact ih0 _ _ _ _)
      | (with_reducible exact LeO.refl _)
      | (with_reducible exact LeO.none _)
      | (with_reducible refine LeO.ite ?_ ?_)
      | (with_reducible refine LeO.bind ?_ (fun _ => ?_))
      | exact ih0 _ _ _ _
      | exact LeO.none _
      | refine LeO.ite ?_ ?_
      | refine LeO.bind ?_ (fun _ => ?_)
end Go.Proofs.Ytfjhlcbpogihmaa.Pr
end
section
namespace Go.Proofs.Ytfjhlcbpogihmaa.Pr
open Go.RowKit Go.Proofs.YtfjhlcbpogihmaaW.PrintWords Go.Proofs.YtfjhlcbpogihmaaW.PrintLast Go.Proofs.YtfjhlcbpogihmaaW.PrintMore
attribute [local go_sem] max2_int min2_int max_two min_two max_three min_three max_four min_four
set_option linter.unusedVariables false
set_option linter.unusedSimpArgs false
/-! ### ferruleref02_Put: function 63 -/
def ferruleref02_Put.f (k : Nat) (a0 : ByteArray) : Option (ByteArray × Int) := if (a0.size : Int) > 65536 then (some ((⟨#[]⟩ : ByteArray), 4)) else ((ferruleref01_Num.f k (a0.size : Int)).bind fun bt410 => (if bt410.1.size + a0.size ≤ 9223372036854775807 then ((ferruleref02_Sum.f k (bt410.1 ++ a0)).bind fun t412 => ((ferruleref02_four.f t412).bind fun t413 => (if (bt410.1 ++ a0).size + t413.size ≤ 9223372036854775807 then (some ((bt410.1 ++ a0) ++ t413, 0)) else (none)))) else (none)))
end Go.Proofs.Ytfjhlcbpogihmaa.Pr
end
section
namespace Go.Proofs.Ytfjhlcbpogihmaa.Pr
open Go.RowKit Go.Proofs.YtfjhlcbpogihmaaW.PrintWords Go.Proofs.YtfjhlcbpogihmaaW.PrintLast Go.Proofs.YtfjhlcbpogihmaaW.PrintMore
attribute [local go_sem] max2_int min2_int max_two min_two max_three min_three max_four min_four
set_option linter.unusedVariables false
set_option linter.unusedSimpArgs false
/-! ### ferruleref02_Take: function 70 -/
def ferruleref02_Take.f (k : Nat) (a0 : ByteArray) : Option (ByteArray × ByteArray × Int) := (ferruleref01_TakeNum.f k a0).bind fun bt487 => (if bt487.2.2 = 0 then (if bt487.1 > 65536 then (some ((⟨#[]⟩ : ByteArray), (⟨#[]⟩ : ByteArray), 4)) else (if (IntKind.u64.wrap ((bt487.2.1.size : Int))) < (IntKind.u64.wrap (bt487.1 + 4)) then (some ((⟨#[]⟩ : ByteArray), (⟨#[]⟩ : ByteArray), 2)) else (if 0 ≤ (wrap64 ((wrap64 ((a0.size : Int) - (bt487.2.1.size : Int))) + (wrap64 (bt487.1)))) then (if (wrap64 ((wrap64 ((a0.size : Int) - (bt487.2.1.size : Int))) + (wrap64 (bt487.1)))) ≤ (a0.size : Int) then ((ferruleref02_Sum.f k (a0.extract 0 ((wrap64 ((wrap64 ((a0.size : Int) - (bt487.2.1.size : Int))) + (wrap64 (bt487.1)))) : Int).toNat)).bind fun t490 => ((ferruleref02_four.f t490).bind fun t491 => (if 0 ≤ bt487.1 then (if bt487.1 ≤ (IntKind.u64.wrap (bt487.1 + 4)) then (if (IntKind.u64.wrap (bt487.1 + 4)) ≤ (bt487.2.1.size : Int) then (if t491.toList = (bt487.2.1.extract (bt487.1 : Int).toNat ((IntKind.u64.wrap (bt487.1 + 4)) : Int).toNat).toList then (if bt487.1 ≤ (bt487.2.1.size : Int) then (if 0 ≤ (IntKind.u64.wrap (bt487.1 + 4)) then (some (bt487.2.1.extract 0 (bt487.1 : Int).toNat, bt487.2.1.extract ((IntKind.u64.wrap (bt487.1 + 4)) : Int).toNat bt487.2.1.size, 0)) else (none)) else (none)) else (some ((⟨#[]⟩ : ByteArray), (⟨#[]⟩ : ByteArray), 3))) else (none)) else (none)) else (none)))) else (none)) else (none)))) else (some ((⟨#[]⟩ : ByteArray), (⟨#[]⟩ : ByteArray), bt487.2.2)))
theorem ferruleref02_Take.mono : ∀ a0 k, LeO (ferruleref02_Take.f k a0) (ferruleref02_Take.f (k + 1) a0) := by
  intro a0 k
  unfold ferruleref02_Take.f
  repeat' first
      | (with_reducible exact ferruleref01_TakeNum.mono _ _)
      | (with_reducible exact ferruleref02_Sum.mono _ _)
      | (with_reducible exact LeO.refl _)
      | (with_reducible exact LeO.none _)
      | (with_reducible refine LeO.ite ?_ ?_)
      | (with_reducible refine LeO.bind ?_ (fun _ => ?_))
      | exact ferruleref01_TakeNum.mono _ _
      | exact ferruleref02_Sum.mono _ _
      | exact LeO.none _
      | refine LeO.ite ?_ ?_
      | refine LeO.bind ?_ (fun _ => ?_)
end Go.Proofs.Ytfjhlcbpogihmaa.Pr
end
section
namespace Go.Proofs.Ytfjhlcbpogihmaa.Pr
open Go.RowKit Go.Proofs.YtfjhlcbpogihmaaW.PrintWords Go.Proofs.YtfjhlcbpogihmaaW.PrintLast Go.Proofs.YtfjhlcbpogihmaaW.PrintMore
attribute [local go_sem] max2_int min2_int max_two min_two max_three min_three max_four min_four
set_option linter.unusedVariables false
set_option linter.unusedSimpArgs false
/-! ### ferruleref04_NoteMay: function 68 -/
mutual
def ferruleref04_NoteMay.j0 : Nat → Bool → Int → Int → Int → Int → ByteArray → Option (Bool)
  | 0, _, _, _, _, _, _ => none
  | k + 1, x21, x439000, x439001, x439002, x439003, x439004 => if x21 = true then (some false) else (if x439000 = 1 then (if x439001 = 0 then (some (x439004.toList == ([] : List UInt8))) else (some false)) else (if x439000 = 2 then (ferruleref04_NoteMay.j1 k x439000 (x439000 == 2) x439000 x439001 x439002 x439003 x439004) else (ferruleref04_NoteMay.j1 k x439000 (x439000 == 4) x439000 x439001 x439002 x439003 x439004)))
def ferruleref04_NoteMay.j1 : Nat → Int → Bool → Int → Int → Int → Int → ByteArray → Option (Bool)
  | 0, _, _, _, _, _, _, _ => none
  | k + 1, x23, x34, x439000, x439001, x439002, x439003, x439004 => if x34 = true then (some (x439003 == 0)) else (if x23 = 3 then (if x439002 = 0 then (if x439003 = 0 then (some (x439004.toList == ([] : List UInt8))) else (some false)) else (some false)) else (some false))
end
def ferruleref04_NoteMay.f (k : Nat) (a0_0 : Int) (a0_1 : Int) (a0_2 : Int) (a0_3 : Int) (a0_4 : ByteArray) : Option (Bool) := if a0_1 > 4611686018427387903 then (ferruleref04_NoteMay.j0 k true a0_0 a0_1 a0_2 a0_3 a0_4) else (if a0_2 > 4611686018427387903 then (ferruleref04_NoteMay.j0 k true a0_0 a0_1 a0_2 a0_3 a0_4) else (if a0_3 > 4611686018427387903 then (ferruleref04_NoteMay.j0 k true a0_0 a0_1 a0_2 a0_3 a0_4) else (ferruleref04_NoteMay.j0 k (decide ((a0_4.size : Int) > 4096)) a0_0 a0_1 a0_2 a0_3 a0_4)))
end Go.Proofs.Ytfjhlcbpogihmaa.Pr
end
section
namespace Go.Proofs.Ytfjhlcbpogihmaa.Pr
open Go.RowKit Go.Proofs.YtfjhlcbpogihmaaW.PrintWords Go.Proofs.YtfjhlcbpogihmaaW.PrintLast Go.Proofs.YtfjhlcbpogihmaaW.PrintMore
attribute [local go_sem] max2_int min2_int max_two min_two max_three min_three max_four min_four
set_option linter.unusedVariables false
set_option linter.unusedSimpArgs false
/-! ### ferruleref04_Bytes: function 36 -/
def ferruleref04_Bytes.f (k : Nat) (a0_0 : Int) (a0_1 : Int) (a0_2 : Int) (a0_3 : Int) (a0_4 : ByteArray) : Option (ByteArray × Int) := (ferruleref04_NoteMay.f k a0_0 a0_1 a0_2 a0_3 a0_4).bind fun t440 => (if t440 = true then ((ref_Nums.f k (([a0_1, a0_2, a0_3] : List Int))).bind fun bt444 => ((some (([(a0_0) % 256] : List Int) : List Int)).bind fun y446 => (if (strOfNums y446).size + bt444.1.size ≤ 9223372036854775807 then (if ((strOfNums y446) ++ bt444.1).size + a0_4.size ≤ 9223372036854775807 then ((ferruleref02_Put.f k (((strOfNums y446) ++ bt444.1) ++ a0_4)).bind fun bt449 => (some (bt449.1, bt449.2))) else (none)) else (none)))) else (some ((⟨#[]⟩ : ByteArray), 1)))
end Go.Proofs.Ytfjhlcbpogihmaa.Pr
end
section
namespace Go.Proofs.Ytfjhlcbpogihmaa.Pr
open Go.RowKit Go.Proofs.YtfjhlcbpogihmaaW.PrintWords Go.Proofs.YtfjhlcbpogihmaaW.PrintLast Go.Proofs.YtfjhlcbpogihmaaW.PrintMore
attribute [local go_sem] max2_int min2_int max_two min_two max_three min_three max_four min_four
set_option linter.unusedVariables false
set_option linter.unusedSimpArgs false
/-! ### ferruleref04_one: function 71 -/
def ferruleref04_one.f (k : Nat) (a0 : ByteArray) : Option (Int × Int × Int × Int × ByteArray × Bool) := if (a0.size : Int) = 0 then (some (0, 0, 0, 0, (⟨#[]⟩ : ByteArray), false)) else (if 1 ≤ (a0.size : Int) then ((ferruleref01_TakeNums.f k (a0.extract 1 a0.size) 3).bind fun bt502 => (if bt502.2.2 = 0 then (if (bt502.1.length : Int) = 3 then (if 0 < (a0.size : Int) then (if 0 < (bt502.1.length : Int) then (if 1 < (bt502.1.length : Int) then (if 2 < (bt502.1.length : Int) then ((ferruleref04_NoteMay.f k (wrap64 (bt a0 0)) (rd bt502.1 0) (rd bt502.1 1) (rd bt502.1 2) bt502.2.1).bind fun t511 => (some (wrap64 (bt a0 0), rd bt502.1 0, rd bt502.1 1, rd bt502.1 2, bt502.2.1, t511))) else (none)) else (none)) else (none)) else (none)) else (some (0, 0, 0, 0, (⟨#[]⟩ : ByteArray), false))) else (some (0, 0, 0, 0, (⟨#[]⟩ : ByteArray), false)))) else (none))
end Go.Proofs.Ytfjhlcbpogihmaa.Pr
end
section
namespace Go.Proofs.Ytfjhlcbpogihmaa.Pr
open Go.RowKit Go.Proofs.YtfjhlcbpogihmaaW.PrintWords Go.Proofs.YtfjhlcbpogihmaaW.PrintLast Go.Proofs.YtfjhlcbpogihmaaW.PrintMore
attribute [local go_sem] max2_int min2_int max_two min_two max_three min_three max_four min_four
set_option linter.unusedVariables false
set_option linter.unusedSimpArgs false
/-! ### ferruleref04_Read: function 38 -/
def ferruleref04_Read.l0 : Nat → ByteArray → List (S39) → ByteArray → Option ((List (S39)) × Int)
  | 0, _, _, _ => none
  | k + 1, x0, x4, x5 => if (x5.size : Int) > 0 then ((ferruleref02_Take.f k x5).bind fun bt512 => (if bt512.2.2 = 0 then ((ferruleref04_one.f k bt512.1).bind fun bt515 => (if bt515.2.2.2.2.2 = true then (if x4.length < 2932031007402 then (ferruleref04_Read.l0 k x0 (x4 ++ [(⟨bt515.1, bt515.2.1, bt515.2.2.1, bt515.2.2.2.1, bt515.2.2.2.2.1⟩ : S39)]) bt512.2.1) else (none)) else (some (x4, wrap64 ((x0.size : Int) - (x5.size : Int)))))) else (some (x4, wrap64 ((x0.size : Int) - (x5.size : Int)))))) else (some (x4, wrap64 ((x0.size : Int) - (x5.size : Int))))
def ferruleref04_Read.f (k : Nat) (a0 : ByteArray) : Option ((List (S39)) × Int) := ferruleref04_Read.l0 k a0 ([] : List (S39)) a0
end Go.Proofs.Ytfjhlcbpogihmaa.Pr
end
