/- What the program's functions compute, and that they compute it: printed out of the translation by a program of this session's (px.py, over the kit's printer). Conditions: none. -/
import Derived.Test.YtfjhlcbpogihmaaPr0
import Derived.Test.YtfjhlcbpogihmaaHandBytes
namespace Go.Proofs.Ytfjhlcbpogihmaa.Pr
open Go.RowKit Go.Proofs.YtfjhlcbpogihmaaW.PrintWords Go.Proofs.YtfjhlcbpogihmaaW.PrintLast Go.Proofs.YtfjhlcbpogihmaaW.PrintMore
attribute [local go_sem] max2_int min2_int max_two min_two max_three min_three max_four min_four   -- for this text's walks alone
set_option linter.unusedVariables false
set_option linter.unusedSimpArgs false

/-! ### ferrulelaw17_shown: function 30 -/
def ferrulelaw17_shown.f  : Option (Bool) := (post_Bytes.f 4 1 2 3 0 0 0 true ([] : List (S75)) (⟨#[]⟩ : ByteArray)).bind fun bt396 => (if bt396.2 = 0 then (if (bt396.1.size : Int) = 16 then (if 0 ≤ 12 then (if 12 ≤ (bt396.1.size : Int) then (some ((bt396.1.extract 0 12).toList == ([11, 7, 4, 1, 2, 3, 0, 0, 0, 1, 0, 0] : List UInt8))) else (none)) else (none)) else (some false)) else (some false))
set_option maxHeartbeats 8000000 in
set_option maxRecDepth 100000 in
theorem ferrulelaw17_shown.calls  (r : Bool) (w : World) (h : ferrulelaw17_shown.f  = some r) :
    Calls Try.prog 30 #[] w fun e w' => e = .returned (.bool r) ∧ Below w.heap.size w w' := by
  have hu57 := Try.underlying57
  have HB := Aside0.mk (Below.refl w.heap.size w)
  have H : ((post_Bytes.f 4 1 2 3 0 0 0 true ([] : List (S75)) (⟨#[]⟩ : ByteArray)).bind fun bt396 => (if bt396.2 = 0 then (if (bt396.1.size : Int) = 16 then (if 0 ≤ 12 then (if 12 ≤ (bt396.1.size : Int) then (some ((bt396.1.extract 0 12).toList == ([11, 7, 4, 1, 2, 3, 0, 0, 0, 1, 0, 0] : List UInt8))) else (none)) else (none)) else (some false)) else (some false))) = some r := h
  clear h
  replace H := Option.bind_eq_some_iff.mp H
  obtain ⟨⟨t396, t397⟩, A10, H⟩ := H
  replace H : (if t397 = 0 then (if (t396.size : Int) = 16 then (if 0 ≤ 12 then (if 12 ≤ (t396.size : Int) then (some ((t396.extract 0 12).toList == ([11, 7, 4, 1, 2, 3, 0, 0, 0, 1, 0, 0] : List UInt8))) else (none)) else (none)) else (some false)) else (some false)) = some r := H
  have A1 := Aside0.mk A10
  clear A10
  by_cases c2 : t397 = 0
  · rw [if_pos c2] at H
    have c2b0 : (t397 == 0) = true := beq_iff_eq.mpr c2
    have c2b1 : (t397 != 0) = false := bne_eq_false_iff_eq.mpr c2
    clear c2
    by_cases c3 : (t396.size : Int) = 16
    · rw [if_pos c3] at H
      have c3b0 : ((t396.size : Int) == 16) = true := beq_iff_eq.mpr c3
      have c3b1 : ((t396.size : Int) != 16) = false := bne_eq_false_iff_eq.mpr c3
      clear c3
      by_cases c4 : 0 ≤ 12
      · rw [if_pos c4] at H
        have c4b0 := eq_true c4
        have c4b1 : decide (0 ≤ 12) = true := decide_eq_true c4
        clear c4
        by_cases c5 : 12 ≤ (t396.size : Int)
        · rw [if_pos c5] at H
          have c5b0 := eq_true c5
          have c5b1 : decide (12 ≤ (t396.size : Int)) = true := decide_eq_true c5
          clear c5
          obtain rfl := Option.some.inj H
          go_enter Try.func30, Try.ntmps30
          go_wp2_with (first | ((with_reducible refine gate_callee (f := 31) rfl ?_); refine goesL_ (some 5) rfl rfl Try.func31 (by kernel_rfl) rfl #[.agg #[.int .i64 4, .int .u64 1, .int .u64 2, .int .u64 3, .int .u64 0, .int .u64 0, .int .u64 0, .bool true, .slice none 0 0, .string (⟨#[]⟩ : ByteArray)]] rfl (by (try simp only [List.map_toArray, List.map_cons, List.map_nil]); first | done | rfl | (simp only [List.length_drop, List.length_take]; rfl)) ?_; (refine (post_Bytes.calls 4 1 2 3 0 0 0 true _ _ ([] : List (S75)) (⟨#[]⟩ : ByteArray) t396 t397 _ ?side1 ?side2 A1.out).mono ?_); (case side1 => exact Kd.C_nil _ _); (case side2 => exact Nat.le_refl _); rintro e w6 ⟨rfl, hb⟩; refine ⟨_, rfl, ?_⟩; have n0_ := Aside0.mk (below_step (by repeat (first | (with_reducible first | exact HB.out | apply below_alloc | apply pw_below_drewN | apply below_drew1) | exact HB.out | exact Below.refl _ _)) hb); clear HB; have HB := n0_; clear n0_; (try clear hb); (try clear hb2); (try clear hk); (try clear hi)))
          go_ret
          exact ⟨by first | rfl | (simp [errW_none, errW_some] <;> rfl) | (simp [*, errW_none, errW_some] <;> rfl), by repeat (first | (with_reducible first | exact HB.out | apply below_alloc | apply pw_below_drewN | apply below_drew1) | exact HB.out)⟩
        · rw [if_neg c5] at H
          exact absurd H (by simp)
      · rw [if_neg c4] at H
        exact absurd H (by simp)
    · rw [if_neg c3] at H
      have c3b0 : ((t396.size : Int) == 16) = false := beq_eq_false_iff_ne.mpr c3
      have c3b1 : ((t396.size : Int) != 16) = true := bne_iff_ne.mpr c3
      obtain rfl := Option.some.inj H
      go_enter Try.func30, Try.ntmps30
      go_wp2_with (first | ((with_reducible refine gate_callee (f := 31) rfl ?_); refine goesL_ (some 5) rfl rfl Try.func31 (by kernel_rfl) rfl #[.agg #[.int .i64 4, .int .u64 1, .int .u64 2, .int .u64 3, .int .u64 0, .int .u64 0, .int .u64 0, .bool true, .slice none 0 0, .string (⟨#[]⟩ : ByteArray)]] rfl (by (try simp only [List.map_toArray, List.map_cons, List.map_nil]); first | done | rfl | (simp only [List.length_drop, List.length_take]; rfl)) ?_; (refine (post_Bytes.calls 4 1 2 3 0 0 0 true _ _ ([] : List (S75)) (⟨#[]⟩ : ByteArray) t396 t397 _ ?side1 ?side2 A1.out).mono ?_); (case side1 => exact Kd.C_nil _ _); (case side2 => exact Nat.le_refl _); rintro e w7 ⟨rfl, hb⟩; refine ⟨_, rfl, ?_⟩; have n0_ := Aside0.mk (below_step (by repeat (first | (with_reducible first | exact HB.out | apply below_alloc | apply pw_below_drewN | apply below_drew1) | exact HB.out | exact Below.refl _ _)) hb); clear HB; have HB := n0_; clear n0_; (try clear hb); (try clear hb2); (try clear hk); (try clear hi)))
      go_ret
      exact ⟨by first | rfl | (simp [errW_none, errW_some] <;> rfl) | (simp [*, errW_none, errW_some] <;> rfl), by repeat (first | (with_reducible first | exact HB.out | apply below_alloc | apply pw_below_drewN | apply below_drew1) | exact HB.out)⟩
  · rw [if_neg c2] at H
    have c2b0 : (t397 == 0) = false := beq_eq_false_iff_ne.mpr c2
    have c2b1 : (t397 != 0) = true := bne_iff_ne.mpr c2
    obtain rfl := Option.some.inj H
    go_enter Try.func30, Try.ntmps30
    go_wp2_with (first | ((with_reducible refine gate_callee (f := 31) rfl ?_); refine goesL_ (some 5) rfl rfl Try.func31 (by kernel_rfl) rfl #[.agg #[.int .i64 4, .int .u64 1, .int .u64 2, .int .u64 3, .int .u64 0, .int .u64 0, .int .u64 0, .bool true, .slice none 0 0, .string (⟨#[]⟩ : ByteArray)]] rfl (by (try simp only [List.map_toArray, List.map_cons, List.map_nil]); first | done | rfl | (simp only [List.length_drop, List.length_take]; rfl)) ?_; (refine (post_Bytes.calls 4 1 2 3 0 0 0 true _ _ ([] : List (S75)) (⟨#[]⟩ : ByteArray) t396 t397 _ ?side1 ?side2 A1.out).mono ?_); (case side1 => exact Kd.C_nil _ _); (case side2 => exact Nat.le_refl _); rintro e w8 ⟨rfl, hb⟩; refine ⟨_, rfl, ?_⟩; have n0_ := Aside0.mk (below_step (by repeat (first | (with_reducible first | exact HB.out | apply below_alloc | apply pw_below_drewN | apply below_drew1) | exact HB.out | exact Below.refl _ _)) hb); clear HB; have HB := n0_; clear n0_; (try clear hb); (try clear hb2); (try clear hk); (try clear hi)))
    go_ret
    exact ⟨by first | rfl | (simp [errW_none, errW_some] <;> rfl) | (simp [*, errW_none, errW_some] <;> rfl), by repeat (first | (with_reducible first | exact HB.out | apply below_alloc | apply pw_below_drewN | apply below_drew1) | exact HB.out)⟩

end Go.Proofs.Ytfjhlcbpogihmaa.Pr
