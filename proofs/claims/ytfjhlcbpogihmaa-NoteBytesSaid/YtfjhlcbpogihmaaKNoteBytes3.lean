/- Several texts of one depth, laid together. Conditions: none. -/
import Derived.Test.YtfjhlcbpogihmaaGNoteBytesPr0
import Derived.Test.YtfjhlcbpogihmaaGNoteBytesPr6
import Derived.Test.YtfjhlcbpogihmaaGNoteBytesPr12
import Derived.Test.YtfjhlcbpogihmaaGNoteBytesPr44
import Derived.Test.YtfjhlcbpogihmaaKNoteBytes1
import Derived.Test.YtfjhlcbpogihmaaGNoteBytesHandFold
import Derived.Test.YtfjhlcbpogihmaaGNoteBytesPr8
import Derived.Test.YtfjhlcbpogihmaaKNoteBytes2
namespace Go.Proofs.Ytfjhlcbpogihmaa.Pr
open Go.RowKit Go.Proofs.YtfjhlcbpogihmaaW.PrintWords Go.Proofs.YtfjhlcbpogihmaaW.PrintLast Go.Proofs.YtfjhlcbpogihmaaW.PrintMore
attribute [local go_sem] max2_int min2_int max_two min_two max_three min_three max_four min_four   -- for this text's walks alone
set_option linter.unusedVariables false
set_option linter.unusedSimpArgs false

/-! ### ferrulelaw04_NoteBytes: function 9 -/
def ferrulelaw04_NoteBytes.f (k : Nat) (a0_0 : Int) (a0_1 : Int) (a0_2 : Int) (a0_3 : Int) (a0_4 : ByteArray) : Option (Bool) := (ferrulelaw04_shown.f).bind fun t452 => ((note_Bytes.f k a0_0 a0_1 a0_2 a0_3 a0_4).bind fun bt453 => ((ferruleref04_Bytes.f k a0_0 a0_1 a0_2 a0_3 a0_4).bind fun bt455 => (if t452 = true then (if bt453.1.toList = bt455.1.toList then (some (bt453.2 == bt455.2)) else (none)) else (none))))
theorem ferrulelaw04_NoteBytes.mono : ∀ a0 a1 a2 a3 a4 k, LeO (ferrulelaw04_NoteBytes.f k a0 a1 a2 a3 a4) (ferrulelaw04_NoteBytes.f (k + 1) a0 a1 a2 a3 a4) := by
  intro a0 a1 a2 a3 a4 k
  unfold ferrulelaw04_NoteBytes.f
  repeat' first
      | (with_reducible exact ferruleref04_Bytes.mono _ _ _ _ _ _)
      | (with_reducible exact note_Bytes.mono _ _ _ _ _ _)
      | (with_reducible exact LeO.refl _)
      | (with_reducible exact LeO.none _)
      | (with_reducible refine LeO.ite ?_ ?_)
      | (with_reducible refine LeO.bind ?_ (fun _ => ?_))
      | exact ferruleref04_Bytes.mono _ _ _ _ _ _
      | exact note_Bytes.mono _ _ _ _ _ _
      | exact LeO.none _
      | refine LeO.ite ?_ ?_
      | refine LeO.bind ?_ (fun _ => ?_)
set_option maxHeartbeats 8000000 in
set_option maxRecDepth 100000 in
theorem ferrulelaw04_NoteBytes.calls (k : Nat) (a0_0 : Int) (a0_1 : Int) (a0_2 : Int) (a0_3 : Int) (a0_4 : ByteArray) (r : Bool) (w : World) (h : ferrulelaw04_NoteBytes.f k a0_0 a0_1 a0_2 a0_3 a0_4 = some r) :
    Calls Try.prog 9 #[.agg #[.int .i64 a0_0, .int .u64 a0_1, .int .u64 a0_2, .int .u64 a0_3, .string a0_4]] w fun e w' => e = .returned (.bool r) ∧ Below w.heap.size w w' := by
  have hu39 := Try.underlying39
  have HB := Aside0.mk (Below.refl w.heap.size w)
  have H : ((ferrulelaw04_shown.f).bind fun t452 => ((note_Bytes.f k a0_0 a0_1 a0_2 a0_3 a0_4).bind fun bt453 => ((ferruleref04_Bytes.f k a0_0 a0_1 a0_2 a0_3 a0_4).bind fun bt455 => (if t452 = true then (if bt453.1.toList = bt455.1.toList then (some (bt453.2 == bt455.2)) else (none)) else (none))))) = some r := h
  clear h
  replace H := Option.bind_eq_some_iff.mp H
  obtain ⟨t452, A20, H⟩ := H
  replace H : ((note_Bytes.f k a0_0 a0_1 a0_2 a0_3 a0_4).bind fun bt453 => ((ferruleref04_Bytes.f k a0_0 a0_1 a0_2 a0_3 a0_4).bind fun bt455 => (if t452 = true then (if bt453.1.toList = bt455.1.toList then (some (bt453.2 == bt455.2)) else (none)) else (none)))) = some r := H
  have A2 := Aside0.mk A20
  clear A20
  replace H := Option.bind_eq_some_iff.mp H
  obtain ⟨⟨t453, t454⟩, A30, H⟩ := H
  replace H : ((ferruleref04_Bytes.f k a0_0 a0_1 a0_2 a0_3 a0_4).bind fun bt455 => (if t452 = true then (if t453.toList = bt455.1.toList then (some (t454 == bt455.2)) else (none)) else (none))) = some r := H
  have A3 := Aside0.mk A30
  clear A30
  replace H := Option.bind_eq_some_iff.mp H
  obtain ⟨⟨t455, t456⟩, A40, H⟩ := H
  replace H : (if t452 = true then (if t453.toList = t455.toList then (some (t454 == t456)) else (none)) else (none)) = some r := H
  have A4 := Aside0.mk A40
  clear A40
  by_cases c5 : t452 = true
  · subst c5
    have H1 : (if t453.toList = t455.toList then (some (t454 == t456)) else (none)) = some r := by rw [if_pos rfl] at H; exact H
    clear H
    have H := H1
    clear H1
    by_cases c6 : t453.toList = t455.toList
    · rw [if_pos c6] at H
      have c6b0 : (t453.toList == t455.toList) = true := beq_iff_eq.mpr c6
      have c6b1 : (t453.toList != t455.toList) = false := bne_eq_false_iff_eq.mpr c6
      clear c6
      obtain rfl := Option.some.inj H
      go_enter Try.func9, Try.ntmps9
      go_wp2_with (first | ((with_reducible refine gate_dst (N := 1) rfl ?_); refine box_event ?hg (N := 1) ?hd (cs := #[.int .i64 a0_0, .int .u64 a0_1, .int .u64 a0_2, .int .u64 a0_3, .string a0_4]) (t := 39) ?hr ?_; (case hd => rfl); (case hg => rfl); (case hr => first | (go_simp; done) | (go_simp; rfl)); intro gb451 hg w7 hbox hb; have n0_ := Aside0.mk (below_step (by repeat (first | (with_reducible first | exact HB.out | apply below_alloc | apply pw_below_drewN | apply below_drew1) | exact HB.out | exact Below.refl _ _)) hb); have n1_ := Aside0.mk (hbox); have n2_ := Aside0.mk ((by rw [hg]; exact (below_size (by repeat (first | (with_reducible first | exact HB.out | apply below_alloc | apply pw_below_drewN | apply below_drew1) | exact HB.out))) : w.heap.size ≤ gb451)); have n3_ := Aside0.mk ((by rw [hg]; exact (below_size (by repeat (first | (with_reducible first | exact HB.out | apply below_alloc | apply pw_below_drewN | apply below_drew1) | exact HB.out))) : w.heap.size ≤ gb451)); clear HB; have HB := n0_; have BK451 := n1_; have GW451 := n2_; have GE451 := n3_; clear n0_ n1_ n2_ n3_; clear hb hbox hg) | ((with_reducible refine gate_callee (f := 14) rfl ?_); refine goesL_ (some 8) rfl rfl Try.func14 (by kernel_rfl) rfl #[] rfl (by (try simp only [List.map_toArray, List.map_cons, List.map_nil]); first | done | rfl | (simp only [List.length_drop, List.length_take]; rfl)) ?_; (with_reducible refine (ferrulelaw04_shown.calls  true _ A2.out).mono ?_); rintro e w8 ⟨rfl, hb⟩; refine ⟨_, rfl, ?_⟩; have n0_ := Aside0.mk (blk_below (g := gb451) (o := .cells #[.int .i64 a0_0, .int .u64 a0_1, .int .u64 a0_2, .int .u64 a0_3, .string a0_4] 39 (0, 0)) (by (with_reducible repeat (first | refine blk_drewN ?_ _ | refine blk_drew ?_ | refine blk_alloc ?_ _)); exact BK451.out) hb); have n1_ := Aside0.mk (below_step (by repeat (first | (with_reducible first | exact HB.out | apply below_alloc | apply pw_below_drewN | apply below_drew1 | refine below_set ?_ GE451.out) | exact HB.out | exact Below.refl _ _)) hb); clear BK451; clear HB; have BK451 := n0_; have HB := n1_; clear n0_ n1_; (try clear hb); (try clear hb2); (try clear hk); (try clear hi); have hcz9_0 : w8.cell? ⟨gb451, 0, none⟩ = some (.int .i64 a0_0) := (blk_cell BK451.out 0).trans rfl; have hcz9_1 : w8.cell? ⟨gb451, 1, none⟩ = some (.int .u64 a0_1) := (blk_cell BK451.out 1).trans rfl; have hcz9_2 : w8.cell? ⟨gb451, 2, none⟩ = some (.int .u64 a0_2) := (blk_cell BK451.out 2).trans rfl; have hcz9_3 : w8.cell? ⟨gb451, 3, none⟩ = some (.int .u64 a0_3) := (blk_cell BK451.out 3).trans rfl; have hcz9_4 : w8.cell? ⟨gb451, 4, none⟩ = some (.string a0_4) := (blk_cell BK451.out 4).trans rfl; have hfz9_0 := blk_frozen BK451.out 0; have hfz9_1 := blk_frozen BK451.out 1; have hfz9_2 := blk_frozen BK451.out 2; have hfz9_3 := blk_frozen BK451.out 3; have hfz9_4 := blk_frozen BK451.out 4) | ((with_reducible refine gate_callee (f := 18) rfl ?_); refine goesL_ (some 11) rfl rfl Try.func18 (by kernel_rfl) rfl #[.agg #[.int .i64 a0_0, .int .u64 a0_1, .int .u64 a0_2, .int .u64 a0_3, .string a0_4]] rfl (by (try simp only [List.map_toArray, List.map_cons, List.map_nil]); first | done | rfl | (simp only [List.length_drop, List.length_take]; rfl)) ?_; (with_reducible refine (note_Bytes.calls k a0_0 a0_1 a0_2 a0_3 a0_4 t453 t454 _ A3.out).mono ?_); rintro e w10 ⟨rfl, hb⟩; refine ⟨_, rfl, ?_⟩; have n0_ := Aside0.mk (blk_below (g := gb451) (o := .cells #[.int .i64 a0_0, .int .u64 a0_1, .int .u64 a0_2, .int .u64 a0_3, .string a0_4] 39 (0, 0)) (by (with_reducible repeat (first | refine blk_drewN ?_ _ | refine blk_drew ?_ | refine blk_alloc ?_ _)); exact BK451.out) hb); have n1_ := Aside0.mk (below_step (by repeat (first | (with_reducible first | exact HB.out | apply below_alloc | apply pw_below_drewN | apply below_drew1 | refine below_set ?_ GE451.out) | exact HB.out | exact Below.refl _ _)) hb); clear BK451; clear HB; have BK451 := n0_; have HB := n1_; clear n0_ n1_; (try clear hb); (try clear hb2); (try clear hk); (try clear hi); have hcz11_0 : w10.cell? ⟨gb451, 0, none⟩ = some (.int .i64 a0_0) := (blk_cell BK451.out 0).trans rfl; have hcz11_1 : w10.cell? ⟨gb451, 1, none⟩ = some (.int .u64 a0_1) := (blk_cell BK451.out 1).trans rfl; have hcz11_2 : w10.cell? ⟨gb451, 2, none⟩ = some (.int .u64 a0_2) := (blk_cell BK451.out 2).trans rfl; have hcz11_3 : w10.cell? ⟨gb451, 3, none⟩ = some (.int .u64 a0_3) := (blk_cell BK451.out 3).trans rfl; have hcz11_4 : w10.cell? ⟨gb451, 4, none⟩ = some (.string a0_4) := (blk_cell BK451.out 4).trans rfl; have hfz11_0 := blk_frozen BK451.out 0; have hfz11_1 := blk_frozen BK451.out 1; have hfz11_2 := blk_frozen BK451.out 2; have hfz11_3 := blk_frozen BK451.out 3; have hfz11_4 := blk_frozen BK451.out 4) | ((with_reducible refine gate_callee (f := 36) rfl ?_); refine goesL_ (some 16) rfl rfl Try.func36 (by kernel_rfl) rfl #[.agg #[.int .i64 a0_0, .int .u64 a0_1, .int .u64 a0_2, .int .u64 a0_3, .string a0_4]] rfl (by (try simp only [List.map_toArray, List.map_cons, List.map_nil]); first | done | rfl | (simp only [List.length_drop, List.length_take]; rfl)) ?_; (with_reducible refine (ferruleref04_Bytes.calls k a0_0 a0_1 a0_2 a0_3 a0_4 t455 t456 _ A4.out).mono ?_); rintro e w12 ⟨rfl, hb⟩; refine ⟨_, rfl, ?_⟩; have n0_ := Aside0.mk (blk_below (g := gb451) (o := .cells #[.int .i64 a0_0, .int .u64 a0_1, .int .u64 a0_2, .int .u64 a0_3, .string a0_4] 39 (0, 0)) (by (with_reducible repeat (first | refine blk_drewN ?_ _ | refine blk_drew ?_ | refine blk_alloc ?_ _)); exact BK451.out) hb); have n1_ := Aside0.mk (below_step (by repeat (first | (with_reducible first | exact HB.out | apply below_alloc | apply pw_below_drewN | apply below_drew1 | refine below_set ?_ GE451.out) | exact HB.out | exact Below.refl _ _)) hb); clear BK451; clear HB; have BK451 := n0_; have HB := n1_; clear n0_ n1_; (try clear hb); (try clear hb2); (try clear hk); (try clear hi)))
      go_ret
      exact ⟨by first | rfl | (simp [errW_none, errW_some] <;> rfl) | (simp [*, errW_none, errW_some] <;> rfl), by repeat (first | (with_reducible first | exact HB.out | apply below_alloc | apply pw_below_drewN | apply below_drew1 | refine below_set ?_ GE451.out) | exact HB.out)⟩
    · rw [if_neg c6] at H
      exact absurd H (by simp)
  · replace c5 := Bool.eq_false_iff.mpr c5
    subst c5
    have H1 : (none) = some r := by rw [if_neg (show ¬ (false = true) by decide)] at H; exact H
    clear H
    have H := H1
    clear H1
    exact absurd H (by simp)

end Go.Proofs.Ytfjhlcbpogihmaa.Pr
namespace Go.Proofs.Ytfjhlcbpogihmaa.Pr
open Go.RowKit Go.Proofs.YtfjhlcbpogihmaaW.PrintWords Go.Proofs.YtfjhlcbpogihmaaW.PrintLast Go.Proofs.YtfjhlcbpogihmaaW.PrintMore
def ferrulelaw04_NoteBytes.Pure : Prop := ∀ (a0_0 : Int) (a0_1 : Int) (a0_2 : Int) (a0_3 : Int) (a0_4 : ByteArray), q39 (⟨a0_0, a0_1, a0_2, a0_3, a0_4⟩ : S39) → ∃ k, ferrulelaw04_NoteBytes.f k a0_0 a0_1 a0_2 a0_3 a0_4 = some true
end Go.Proofs.Ytfjhlcbpogihmaa.Pr
namespace Go.Proofs.Ytfjhlcbpogihmaa.Pr
open Go.RowKit Go.Proofs.YtfjhlcbpogihmaaW.PrintWords Go.Proofs.YtfjhlcbpogihmaaW.PrintLast Go.Proofs.YtfjhlcbpogihmaaW.PrintMore
set_option linter.unusedVariables false
set_option linter.unusedSimpArgs false
theorem shown_true : ferrulelaw04_shown.f = some true := by decide +kernel
theorem wi2 {x : Int} (h0 : -9223372036854775808 ≤ x) (h1 : x < 9223372036854775808) : wrap64 x = x := by
  simp [wrap64]
  omega
theorem sameLog_l (b t : Int) (s : ByteArray) (l : List S75) (hl : l.length ≤ 4611686018427387904) : ∀ (d i k : Nat), l.length - i = d → i ≤ l.length → d < k → ferruleref04_SameLog.l0 k (i : Int) b t s l b t s l = some true
  | 0, i, k, hd, hi, hk => by
    obtain ⟨k, rfl⟩ : ∃ j, k = j + 1 := ⟨k - 1, by omega⟩
    simp only [ferruleref04_SameLog.l0]
    rw [if_neg (by omega)]
  | d + 1, i, k, hd, hi, hk => by
    obtain ⟨k, rfl⟩ : ∃ j, k = j + 1 := ⟨k - 1, by omega⟩
    simp only [ferruleref04_SameLog.l0]
    rw [if_pos (by omega), if_pos (by omega), if_pos (by omega)]
    simp only [BEq.rfl, Bool.not_true, Bool.or_self]
    rw [if_neg (by decide), wi2 (x := (i : Int) + 1) (by omega) (by omega), show ((i : Int) + 1) = ((i + 1 : Nat) : Int) by omega]
    exact sameLog_l b t s l hl d (i + 1) k (by omega) (by omega) (by omega)
theorem same_self (x0 x1 x2 x3 : Int) (x4 : ByteArray) (l : List S75) (hl : l.length ≤ 4611686018427387904) (k : Nat) (hk : l.length + 2 < k) : ferruleref04_Same.f k x0 x1 x2 x3 x4 l x0 x1 x2 x3 x4 l = some true := by
  obtain ⟨k, rfl⟩ : ∃ j, k = j + 1 := ⟨k - 1, by omega⟩
  unfold ferruleref04_Same.f ferruleref04_SameLog.f
  rw [if_pos rfl, if_pos rfl, if_pos rfl]
  simp only [ferruleref04_SameLog.j0]
  rw [if_neg (by simp), show (0 : Int) = ((0 : Nat) : Int) from rfl, sameLog_l x2 x3 x4 l hl l.length 0 k (by omega) (by omega) (by omega)]
  simp
end Go.Proofs.Ytfjhlcbpogihmaa.Pr
namespace Go.Proofs.Ytfjhlcbpogihmaa.Pr
open Go.RowKit Go.Proofs.YtfjhlcbpogihmaaW.PrintWords Go.Proofs.YtfjhlcbpogihmaaW.PrintLast Go.Proofs.YtfjhlcbpogihmaaW.PrintMore
set_option linter.unusedVariables false
set_option linter.unusedSimpArgs false
theorem rnmay_f (kd i t v : Int) (d : ByteArray) (k : Nat) : ferruleref04_NoteMay.f (k + 2) kd i t v d = some (nmayB kd i t v d) := by
  have j0t : ferruleref04_NoteMay.j0 (k + 2) true kd i t v d = some false := by rw [ferruleref04_NoteMay.j0, if_pos rfl]
  have no : ∀ b : Bool, ¬ nmIn i t v d → nmayB kd i t v d = false := fun _ h => by
    unfold nmayB nm1 nm2 nm3
    repeat' split
    all_goals first | rfl | exact decide_eq_false (fun c => h c.2)
  unfold ferruleref04_NoteMay.f
  by_cases c1 : i > 4611686018427387903
  · rw [if_pos c1, j0t, no true (fun h => by unfold nmIn at h; omega)]
  rw [if_neg c1]
  by_cases c2 : t > 4611686018427387903
  · rw [if_pos c2, j0t, no true (fun h => by unfold nmIn at h; omega)]
  rw [if_neg c2]
  by_cases c3 : v > 4611686018427387903
  · rw [if_pos c3, j0t, no true (fun h => by unfold nmIn at h; omega)]
  rw [if_neg c3]
  by_cases c4 : (d.size : Int) > 4096
  · rw [decide_eq_true c4, j0t, no true (fun h => by unfold nmIn at h; omega)]
  rw [decide_eq_false c4, ferruleref04_NoteMay.j0, if_neg (by decide)]
  have hin : nmIn i t v d := ⟨by omega, by omega, by omega, by omega⟩
  unfold nmayB nm1 nm2 nm3
  simp only [hin, and_true]
  by_cases k1 : kd = 1
  · rw [if_pos k1, if_pos k1]
    by_cases c : i = 0
    · rw [if_pos c]
      exact congrArg some (Bool.eq_iff_iff.2 (by rw [beq_iff_eq, decide_eq_true_iff]; exact ⟨fun h => ⟨c.symm, h⟩, fun h => h.2⟩))
    · rw [if_neg c, decide_eq_false (show ¬ nmP1 i t v d from fun h => c h.1.symm)]
  rw [if_neg k1, if_neg k1]
  by_cases k2 : kd = 2
  · subst k2
    rw [if_pos rfl, if_pos rfl, ferruleref04_NoteMay.j1, if_pos (by decide)]
    exact congrArg some (Bool.eq_iff_iff.2 (by rw [beq_iff_eq, decide_eq_true_iff]; exact eq_comm))
  rw [if_neg k2, if_neg k2]
  by_cases k4 : kd = 4
  · subst k4
    rw [ferruleref04_NoteMay.j1, if_pos (by decide)]
    exact congrArg some (Bool.eq_iff_iff.2 (by rw [beq_iff_eq, if_neg (by decide), if_pos rfl, decide_eq_true_iff]; exact eq_comm))
  rw [beq_eq_false_iff_ne.2 k4, ferruleref04_NoteMay.j1, if_neg (by decide)]
  by_cases k3 : kd = 3
  · rw [if_pos k3, if_pos k3]
    by_cases c : t = 0
    · rw [if_pos c]
      by_cases c' : v = 0
      · rw [if_pos c']
        exact congrArg some (Bool.eq_iff_iff.2 (by rw [beq_iff_eq, decide_eq_true_iff]; exact ⟨fun h => ⟨c.symm, c'.symm, h⟩, fun h => h.2.2⟩))
      · rw [if_neg c', decide_eq_false (show ¬ nmP3 i t v d from fun h => c' h.2.1.symm)]
    · rw [if_neg c, decide_eq_false (show ¬ nmP3 i t v d from fun h => c h.1.symm)]
  · rw [if_neg k3, if_neg k3, if_neg k4]
theorem nm_facts {kd i t v : Int} {d : ByteArray} (h : nmayB kd i t v d = true) : (1 ≤ kd ∧ kd ≤ 4) ∧ i ≤ 4611686018427387903 ∧ t ≤ 4611686018427387903 ∧ v ≤ 4611686018427387903 ∧ d.size ≤ 4096 := by
  have hh : (1 ≤ kd ∧ kd ≤ 4) ∧ nmIn i t v d := by
    unfold nmayB nm1 nm2 nm3 at h
    by_cases k1 : kd = 1
    · rw [if_pos k1] at h; exact ⟨by omega, (of_decide_eq_true h).2⟩
    rw [if_neg k1] at h
    by_cases k2 : kd = 2
    · rw [if_pos k2] at h; exact ⟨by omega, (of_decide_eq_true h).2⟩
    rw [if_neg k2] at h
    by_cases k3 : kd = 3
    · rw [if_pos k3] at h; exact ⟨by omega, (of_decide_eq_true h).2⟩
    rw [if_neg k3] at h
    by_cases k4 : kd = 4
    · rw [if_pos k4] at h; exact ⟨by omega, (of_decide_eq_true h).2⟩
    rw [if_neg k4] at h; cases h
  obtain ⟨h1, h2⟩ := hh
  unfold nmIn at h2
  exact ⟨h1, by omega, by omega, by omega, by omega⟩
/-- A note's text. -/
def noteA (kd i t v : Int) (d : ByteArray) : ByteArray := (strOfNums [kd % 256] ++ nsB [3, i, t, v]) ++ d
theorem noteA_le {kd i t v : Int} {d : ByteArray} (h : d.size ≤ 4096) : (noteA kd i t v d).size ≤ 65536 := by
  have h1 := nsB_le [3, i, t, v]
  have h2 : (strOfNums [kd % 256]).size = 1 := strOfNums_size _
  unfold noteA
  simp only [ByteArray.size_append, List.length_cons, List.length_nil] at *
  omega
theorem nbytes_1 {kd i t v : Int} {d : ByteArray} (h : nmayB kd i t v d = true) (g1 : 0 ≤ i) (g2 : 0 ≤ t) (g3 : 0 ≤ v) (k : Nat) : note_Bytes.f k kd i t v d = some (sealB (noteA kd i t v d), 0) := by
  obtain ⟨hk, e1, e2, e3, e4⟩ := nm_facts h
  have hN : pack_Nums.f [i, t, v] = some (nsB [3, i, t, v], 0) := nums_ok [i, t, v] (by simp only [List.mem_cons, List.not_mem_nil, or_false]; rintro x (rfl | rfl | rfl) <;> omega) (by simp)
  have hz := noteA_le (kd := kd) (i := i) (t := t) (v := v) e4
  have hp : seal_Put.f (noteA kd i t v d) = some (sealB (noteA kd i t v d), 0) := put_f hz
  unfold noteA at hz
  rw [ByteArray.size_append, ByteArray.size_append] at hz
  unfold note_Bytes.f note_may.f
  simp only [Option.bind_some, h, if_true, hN]
  rw [if_pos (by omega), if_pos (by rw [ByteArray.size_append]; omega)]
  change (seal_Put.f (noteA kd i t v d)).bind _ = _
  rw [hp]
  rfl
theorem nbytes_2 {kd i t v : Int} {d : ByteArray} (h : nmayB kd i t v d = true) (g1 : 0 ≤ i) (g2 : 0 ≤ t) (g3 : 0 ≤ v) : Ev (fun k => ferruleref04_Bytes.f k kd i t v d) (sealB (noteA kd i t v d), 0) := by
  obtain ⟨hk, e1, e2, e3, e4⟩ := nm_facts h
  have hN : Ev (fun k => ref_Nums.f k [i, t, v]) (nsB [3, i, t, v], 0) := rnums_ok [i, t, v] (by simp only [List.mem_cons, List.not_mem_nil, or_false]; rintro x (rfl | rfl | rfl) <;> omega) (by simp)
  have hz := noteA_le (kd := kd) (i := i) (t := t) (v := v) e4
  have hp : Ev (fun k => ferruleref02_Put.f k (noteA kd i t v d)) (sealB (noteA kd i t v d), 0) := ⟨(noteA kd i t v d).size + 30, fun k hk => rput_f hz k hk⟩
  unfold noteA at hz
  rw [ByteArray.size_append, ByteArray.size_append] at hz
  unfold ferruleref04_Bytes.f
  refine Ev.bind ⟨2, fun k hk => by obtain ⟨m, rfl⟩ : ∃ m, k = m + 2 := ⟨k - 2, by omega⟩; exact rnmay_f kd i t v d m⟩ ?_
  simp only [h, if_true]
  refine Ev.bind hN ?_
  simp only [Option.bind_some]
  refine Ev.congr (f := fun k => (ferruleref02_Put.f k (noteA kd i t v d)).bind fun bt449 => some (bt449.1, bt449.2)) (fun k => ?_) (Ev.bind hp (Ev.now _))
  rw [if_pos (by omega), if_pos (by rw [ByteArray.size_append]; omega)]
  rfl
theorem nbytes_no1 {kd i t v : Int} {d : ByteArray} (h : ¬ nmayB kd i t v d = true) (k : Nat) : note_Bytes.f k kd i t v d = some ((⟨#[]⟩ : ByteArray), 1) := by
  unfold note_Bytes.f note_may.f
  simp only [Option.bind_some]
  rw [if_neg h]
theorem nbytes_no2 {kd i t v : Int} {d : ByteArray} (h : ¬ nmayB kd i t v d = true) : Ev (fun k => ferruleref04_Bytes.f k kd i t v d) ((⟨#[]⟩ : ByteArray), 1) := by
  unfold ferruleref04_Bytes.f
  refine Ev.bind ⟨2, fun k hk => by obtain ⟨m, rfl⟩ : ∃ m, k = m + 2 := ⟨k - 2, by omega⟩; exact rnmay_f kd i t v d m⟩ ?_
  simp only [if_neg h]
  exact Ev.now _
end Go.Proofs.Ytfjhlcbpogihmaa.Pr
namespace Go.Proofs.Ytfjhlcbpogihmaa.Pure
open Go.RowKit Go.Proofs.Ytfjhlcbpogihmaa.Pr Go.Proofs.YtfjhlcbpogihmaaW.PrintWords Go.Proofs.YtfjhlcbpogihmaaW.PrintLast Go.Proofs.YtfjhlcbpogihmaaW.PrintMore
theorem NoteBytes : ferrulelaw04_NoteBytes.Pure := by
  intro a0 a1 a2 a3 a4 ha
  obtain ⟨_, w1, w2, w3, _⟩ := ha
  dsimp only at w1 w2 w3
  have g1 := (inU64_wf w1).1
  have g2 := (inU64_wf w2).1
  have g3 := (inU64_wf w3).1
  refine Ev.rounds ?_
  unfold ferrulelaw04_NoteBytes.f
  rw [shown_true]
  simp only [Option.bind_some]
  by_cases h : nmayB a0 a1 a2 a3 a4 = true
  · simp only [nbytes_1 h g1 g2 g3, Option.bind_some]
    refine Ev.bind (nbytes_2 h g1 g2 g3) ?_
    simp only [if_true, BEq.rfl]
    exact Ev.now true
  · simp only [nbytes_no1 h, Option.bind_some]
    refine Ev.bind (nbytes_no2 h) ?_
    simp only [if_true, BEq.rfl]
    exact Ev.now true
end Go.Proofs.Ytfjhlcbpogihmaa.Pure
