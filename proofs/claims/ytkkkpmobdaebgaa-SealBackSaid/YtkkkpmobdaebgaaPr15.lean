/- What the program's functions compute, and that they compute it: printed out of the translation by a program of this session's (px.py, over the kit's printer). Conditions: none. -/
import Derived.Test.YtkkkpmobdaebgaaPr0
import Derived.Test.YtkkkpmobdaebgaaPr1
import Derived.Test.YtkkkpmobdaebgaaPr2
import Derived.Test.YtkkkpmobdaebgaaPr11
import Derived.Test.YtkkkpmobdaebgaaHandWhole
namespace Go.Proofs.Ytkkkpmobdaebgaa.Pr
open Go.RowKit Go.Proofs.YtkkkpmobdaebgaaW.PrintWords Go.Proofs.YtkkkpmobdaebgaaW.PrintLast Go.Proofs.YtkkkpmobdaebgaaW.PrintMore
attribute [local go_sem] max2_int min2_int max_two min_two max_three min_three max_four min_four   -- for this text's walks alone
set_option linter.unusedVariables false
set_option linter.unusedSimpArgs false

/-! ### ferrulelaw02_SealBack: function 9 -/
mutual
def ferrulelaw02_SealBack.j0 : Nat → Int → Bool → ByteArray → Bool → Option (Bool)
  | 0, _, _, _, _ => none
  | k + 1, x2, x7, x8, x57 => if x57 = true then (none) else (if x2 < 0 then (ferrulelaw02_SealBack.j1 k x2 x7 x8 true) else (ferrulelaw02_SealBack.j1 k x2 x7 x8 (decide (x2 ≥ (x8.size : Int)))))
def ferrulelaw02_SealBack.j1 : Nat → Int → Bool → ByteArray → Bool → Option (Bool)
  | 0, _, _, _, _ => none
  | k + 1, x2, x7, x8, x65 => if x65 = true then (some x7) else (if 0 ≤ x2 then (if x2 ≤ (x8.size : Int) then ((seal_Take.f k (x8.extract 0 (x2 : Int).toNat)).bind fun bt162 => (if x7 = true then (if bt162.2.2 = 2 then ((seal_Whole.f k (x8.extract 0 (x2 : Int).toNat)).bind fun t165 => (some (t165 == 0))) else (none)) else (none))) else (none)) else (none))
end
def ferrulelaw02_SealBack.f (k : Nat) (a0 : ByteArray) (a1 : ByteArray) (a2 : Int) : Option (Bool) := (ferrulelaw02_shown.f).bind fun t156 => ((seal_Put.f a0).bind fun bt157 => (if bt157.2 = 0 then (if bt157.1.size + a1.size ≤ 9223372036854775807 then ((seal_Take.f k (bt157.1 ++ a1)).bind fun bt159 => (if bt159.1.toList = a0.toList then (if bt159.2.1.toList = a1.toList then (ferrulelaw02_SealBack.j0 k a2 t156 bt157.1 (bt159.2.2 != 0)) else (ferrulelaw02_SealBack.j0 k a2 t156 bt157.1 true)) else (ferrulelaw02_SealBack.j0 k a2 t156 bt157.1 true))) else (none)) else (if t156 = true then (if bt157.2 = 4 then (if (a0.size : Int) > 65536 then (some (bt157.1.toList == ([] : List UInt8))) else (none)) else (none)) else (none))))
theorem ferrulelaw02_SealBack.mono_l : ∀ k, (∀ y0 y1 y2 y3, LeO (ferrulelaw02_SealBack.j0 k y0 y1 y2 y3) (ferrulelaw02_SealBack.j0 (k + 1) y0 y1 y2 y3)) ∧ (∀ y0 y1 y2 y3, LeO (ferrulelaw02_SealBack.j1 k y0 y1 y2 y3) (ferrulelaw02_SealBack.j1 (k + 1) y0 y1 y2 y3))
  | 0 => ⟨fun _ _ _ _ r h => by simp [ferrulelaw02_SealBack.j0] at h, fun _ _ _ _ r h => by simp [ferrulelaw02_SealBack.j1] at h⟩
  | k + 1 => by
    obtain ⟨ih0, ih1⟩ := ferrulelaw02_SealBack.mono_l k
    refine ⟨?_, ?_⟩
    · intro y0 y1 y2 y3
      unfold ferrulelaw02_SealBack.j0
      repeat' first
      | (with_reducible exact ih0 _ _ _ _)
      | (with_reducible exact ih1 _ _ _ _)
      | (with_reducible exact seal_Take.mono _ _)
      | (with_reducible exact seal_Whole.mono _ _)
      | (with_reducible exact LeO.refl _)
      | (with_reducible exact LeO.none _)
      | (with_reducible refine LeO.ite ?_ ?_)
      | (with_reducible refine LeO.bind ?_ (fun _ => ?_))
      | exact ih0 _ _ _ _
      | exact ih1 _ _ _ _
      | exact seal_Take.mono _ _
      | exact seal_Whole.mono _ _
      | exact LeO.none _
      | refine LeO.ite ?_ ?_
      | refine LeO.bind ?_ (fun _ => ?_)
    · intro y0 y1 y2 y3
      unfold ferrulelaw02_SealBack.j1
      repeat' first
      | (with_reducible exact ih0 _ _ _ _)
      | (with_reducible exact ih1 _ _ _ _)
      | (with_reducible exact seal_Take.mono _ _)
      | (with_reducible exact seal_Whole.mono _ _)
      | (with_reducible exact LeO.refl _)
      | (with_reducible exact LeO.none _)
      | (with_reducible refine LeO.ite ?_ ?_)
      | (with_reducible refine LeO.bind ?_ (fun _ => ?_))
      | exact ih0 _ _ _ _
      | exact ih1 _ _ _ _
      | exact seal_Take.mono _ _
      | exact seal_Whole.mono _ _
      | exact LeO.none _
      | refine LeO.ite ?_ ?_
      | refine LeO.bind ?_ (fun _ => ?_)
theorem ferrulelaw02_SealBack.mono : ∀ a0 a1 a2 k, LeO (ferrulelaw02_SealBack.f k a0 a1 a2) (ferrulelaw02_SealBack.f (k + 1) a0 a1 a2) := by
  intro a0 a1 a2 k
  obtain ⟨ih0, ih1⟩ := ferrulelaw02_SealBack.mono_l k
  unfold ferrulelaw02_SealBack.f
  repeat' first
      | (with_reducible exact ih0 _ _ _ _)
      | (with_reducible exact ih1 _ _ _ _)
      | (with_reducible exact seal_Take.mono _ _)
      | (with_reducible exact seal_Whole.mono _ _)
      | (with_reducible exact LeO.refl _)
      | (with_reducible exact LeO.none _)
      | (with_reducible refine LeO.ite ?_ ?_)
      | (with_reducible refine LeO.bind ?_ (fun _ => ?_))
      | exact ih0 _ _ _ _
      | exact ih1 _ _ _ _
      | exact seal_Take.mono _ _
      | exact seal_Whole.mono _ _
      | exact LeO.none _
      | refine LeO.ite ?_ ?_
      | refine LeO.bind ?_ (fun _ => ?_)
set_option maxHeartbeats 8000000 in
set_option maxRecDepth 100000 in
theorem ferrulelaw02_SealBack.calls (k : Nat) (a0 : ByteArray) (a1 : ByteArray) (a2 : Int) (r : Bool) (w : World) (h : ferrulelaw02_SealBack.f k a0 a1 a2 = some r) :
    Calls Try.prog 9 #[.string a0, .string a1, .int .i64 a2] w fun e w' => e = .returned (.bool r) ∧ Below w.heap.size w w' := by
  have HB := Aside0.mk (Below.refl w.heap.size w)
  have H : ((ferrulelaw02_shown.f).bind fun t156 => ((seal_Put.f a0).bind fun bt157 => (if bt157.2 = 0 then (if bt157.1.size + a1.size ≤ 9223372036854775807 then ((seal_Take.f k (bt157.1 ++ a1)).bind fun bt159 => (if bt159.1.toList = a0.toList then (if bt159.2.1.toList = a1.toList then (ferrulelaw02_SealBack.j0 k a2 t156 bt157.1 (bt159.2.2 != 0)) else (ferrulelaw02_SealBack.j0 k a2 t156 bt157.1 true)) else (ferrulelaw02_SealBack.j0 k a2 t156 bt157.1 true))) else (none)) else (if t156 = true then (if bt157.2 = 4 then (if (a0.size : Int) > 65536 then (some (bt157.1.toList == ([] : List UInt8))) else (none)) else (none)) else (none))))) = some r := h
  clear h
  replace H := Option.bind_eq_some_iff.mp H
  obtain ⟨t156, A40, H⟩ := H
  replace H : ((seal_Put.f a0).bind fun bt157 => (if bt157.2 = 0 then (if bt157.1.size + a1.size ≤ 9223372036854775807 then ((seal_Take.f k (bt157.1 ++ a1)).bind fun bt159 => (if bt159.1.toList = a0.toList then (if bt159.2.1.toList = a1.toList then (ferrulelaw02_SealBack.j0 k a2 t156 bt157.1 (bt159.2.2 != 0)) else (ferrulelaw02_SealBack.j0 k a2 t156 bt157.1 true)) else (ferrulelaw02_SealBack.j0 k a2 t156 bt157.1 true))) else (none)) else (if t156 = true then (if bt157.2 = 4 then (if (a0.size : Int) > 65536 then (some (bt157.1.toList == ([] : List UInt8))) else (none)) else (none)) else (none)))) = some r := H
  have A4 := Aside0.mk A40
  clear A40
  replace H := Option.bind_eq_some_iff.mp H
  obtain ⟨⟨t157, t158⟩, A50, H⟩ := H
  replace H : (if t158 = 0 then (if t157.size + a1.size ≤ 9223372036854775807 then ((seal_Take.f k (t157 ++ a1)).bind fun bt159 => (if bt159.1.toList = a0.toList then (if bt159.2.1.toList = a1.toList then (ferrulelaw02_SealBack.j0 k a2 t156 t157 (bt159.2.2 != 0)) else (ferrulelaw02_SealBack.j0 k a2 t156 t157 true)) else (ferrulelaw02_SealBack.j0 k a2 t156 t157 true))) else (none)) else (if t156 = true then (if t158 = 4 then (if (a0.size : Int) > 65536 then (some (t157.toList == ([] : List UInt8))) else (none)) else (none)) else (none))) = some r := H
  have A5 := Aside0.mk A50
  clear A50
  by_cases c6 : t158 = 0
  · rw [if_pos c6] at H
    have c6b0 : (t158 == 0) = true := beq_iff_eq.mpr c6
    have c6b1 : (t158 != 0) = false := bne_eq_false_iff_eq.mpr c6
    clear c6
    by_cases c7 : t157.size + a1.size ≤ 9223372036854775807
    · rw [if_pos c7] at H
      have c7b0 := eq_true c7
      have c7b1 : decide (t157.size + a1.size ≤ 9223372036854775807) = true := decide_eq_true c7
      try have c7b2 : (9223372036854775807 < t157.size + a1.size) = False := eq_false (Nat.not_lt.2 c7)
      replace H := Option.bind_eq_some_iff.mp H
      obtain ⟨⟨t159, t160, t161⟩, A80, H⟩ := H
      replace H : (if t159.toList = a0.toList then (if t160.toList = a1.toList then (ferrulelaw02_SealBack.j0 k a2 t156 t157 (t161 != 0)) else (ferrulelaw02_SealBack.j0 k a2 t156 t157 true)) else (ferrulelaw02_SealBack.j0 k a2 t156 t157 true)) = some r := H
      have A8 := Aside0.mk A80
      clear A80
      have HC9 := Aside0.mk H
      clear H
      go_enter Try.func9, Try.ntmps9
      go_upto_region 6 with (first | ((with_reducible refine gate_callee (f := 11) rfl ?_); refine goesL_ (some 16) rfl rfl Try.func11 (by kernel_rfl) rfl #[] rfl (by (try simp only [List.map_toArray, List.map_cons, List.map_nil]); first | done | rfl | (simp only [List.length_drop, List.length_take]; rfl)) ?_; (with_reducible refine (ferrulelaw02_shown.calls  t156 _ A4.out).mono ?_); rintro e w10 ⟨rfl, hb⟩; refine ⟨_, rfl, ?_⟩; have n0_ := Aside0.mk (below_step (by repeat (first | (with_reducible first | exact HB.out | apply below_alloc | apply pw_below_drewN | apply below_drew1) | exact HB.out)) hb); clear HB; have HB := n0_; clear n0_; (try clear hb); (try clear hb2); (try clear hk); (try clear hi)) | ((with_reducible refine gate_callee (f := 14) rfl ?_); refine goesL_ (some 19) rfl rfl Try.func14 (by kernel_rfl) rfl #[.string a0] rfl (by (try simp only [List.map_toArray, List.map_cons, List.map_nil]); first | done | rfl | (simp only [List.length_drop, List.length_take]; rfl)) ?_; (with_reducible refine (seal_Put.calls a0 t157 t158 _ A5.out).mono ?_); rintro e w11 ⟨rfl, hb⟩; refine ⟨_, rfl, ?_⟩; have n0_ := Aside0.mk (below_step (by repeat (first | (with_reducible first | exact HB.out | apply below_alloc | apply pw_below_drewN | apply below_drew1) | exact HB.out)) hb); clear HB; have HB := n0_; clear n0_; (try clear hb); (try clear hb2); (try clear hk); (try clear hi)) | ((with_reducible refine gate_callee (f := 18) rfl ?_); refine goesL_ (some 42) rfl rfl Try.func18 (by kernel_rfl) rfl #[.string (t157 ++ a1)] rfl (by (try simp only [List.map_toArray, List.map_cons, List.map_nil]); first | done | rfl | (simp only [List.length_drop, List.length_take]; rfl)) ?_; (with_reducible refine (seal_Take.calls k (t157 ++ a1) t159 t160 t161 _ A8.out).mono ?_); rintro e w12 ⟨rfl, hb⟩; refine ⟨_, rfl, ?_⟩; have n0_ := Aside0.mk (below_step (by repeat (first | (with_reducible first | exact HB.out | apply below_alloc | apply pw_below_drewN | apply below_drew1) | exact HB.out)) hb); clear HB; have HB := n0_; clear n0_; (try clear hb); (try clear hb2); (try clear hk); (try clear hi)))
      (try simp only [Act.put, List.setIfInBounds_toArray, List.set_cons_zero, List.set_cons_succ])
      go_cut [57] (fun v57 wc => ∃ (kq : Nat) (x57_8 : Bool), v57 = .bool x57_8 ∧ Aside0 (ferrulelaw02_SealBack.j0 kq a2 t156 t157 x57_8 = some r) ∧ Aside0 (kq ≤ k) ∧ Aside0 (Below w.heap.size w wc))
      case first =>
        have H := HC9.out
        clear HC9
        by_cases c13 : t159.toList = a0.toList
        · rw [if_pos c13] at H
          have c13b0 : (t159.toList == a0.toList) = true := beq_iff_eq.mpr c13
          have c13b1 : (t159.toList != a0.toList) = false := bne_eq_false_iff_eq.mpr c13
          clear c13
          (first | rw [c13b0] | (simp only [i64_w, i32_w]; rw [c13b0]) | skip)
          by_cases c14 : t160.toList = a1.toList
          · rw [if_pos c14] at H
            have c14b0 : (t160.toList == a1.toList) = true := beq_iff_eq.mpr c14
            have c14b1 : (t160.toList != a1.toList) = false := bne_eq_false_iff_eq.mpr c14
            clear c14
            have H' := Aside0.mk H
            clear H
            go_wp2
            go_meet
            case rel => exact ⟨_, ((t161 != 0)), (by first | rfl | (simp; done) | (simp [*]; done)), H', ⟨by first | omega | exact Nat.le_refl _⟩, ⟨by repeat (first | (with_reducible first | exact HB.out | apply below_alloc | apply pw_below_drewN | apply below_drew1) | exact HB.out)⟩⟩
          · rw [if_neg c14] at H
            have c14b0 : (t160.toList == a1.toList) = false := beq_eq_false_iff_ne.mpr c14
            have c14b1 : (t160.toList != a1.toList) = true := bne_iff_ne.mpr c14
            have H' := Aside0.mk H
            clear H
            go_wp2
            go_meet
            case rel => exact ⟨_, (true), (by first | rfl | (simp; done) | (simp [*]; done)), H', ⟨by first | omega | exact Nat.le_refl _⟩, ⟨by repeat (first | (with_reducible first | exact HB.out | apply below_alloc | apply pw_below_drewN | apply below_drew1) | exact HB.out)⟩⟩
        · rw [if_neg c13] at H
          have c13b0 : (t159.toList == a0.toList) = false := beq_eq_false_iff_ne.mpr c13
          have c13b1 : (t159.toList != a0.toList) = true := bne_iff_ne.mpr c13
          (first | rw [c13b0] | (simp only [i64_w, i32_w]; rw [c13b0]) | skip)
          have H' := Aside0.mk H
          clear H
          go_wp2
          go_meet
          case rel => exact ⟨_, (true), (by first | rfl | (simp; done) | (simp [*]; done)), H', ⟨by first | omega | exact Nat.le_refl _⟩, ⟨by repeat (first | (with_reducible first | exact HB.out | apply below_alloc | apply pw_below_drewN | apply below_drew1) | exact HB.out)⟩⟩
      case rest =>
        clear HC9
        try clear c1
        try clear p2
        try clear c6
        try clear c6b0
        try clear c6b1
        try clear c7
        try clear c7b0
        try clear c7b1
        try clear c7b2
        try clear c9
        try clear c11
        try clear c13
        try clear c13b0
        try clear c13b1
        try clear c14
        try clear c14b0
        try clear c14b1
        obtain ⟨kq, x57_8, rfl, HA, HJ8, HB⟩ := hcut
        cases kq with
        | zero => exact absurd HA.out (by simp [ferrulelaw02_SealBack.j0])
        | succ kj8 =>
          have H := HA.out
          clear HA
          simp only [ferrulelaw02_SealBack.j0] at H
          by_cases c15 : x57_8 = true
          · subst c15
            have H1 : (none) = some r := by rw [if_pos rfl] at H; exact H
            clear H
            have H := H1
            clear H1
            exact absurd H (by simp)
          · replace c15 := Bool.eq_false_iff.mpr c15
            subst c15
            have H1 : (if a2 < 0 then (ferrulelaw02_SealBack.j1 kj8 a2 t156 t157 true) else (ferrulelaw02_SealBack.j1 kj8 a2 t156 t157 (decide (a2 ≥ (t157.size : Int))))) = some r := by rw [if_neg (show ¬ (false = true) by decide)] at H; exact H
            clear H
            have H := H1
            clear H1
            have HC16 := Aside0.mk H
            clear H
            go_upto_region 8 with (fail)
            go_cut [65] (fun v65 wc => ∃ (kq : Nat) (x65_15 : Bool), v65 = .bool x65_15 ∧ Aside0 (ferrulelaw02_SealBack.j1 kq a2 t156 t157 x65_15 = some r) ∧ Aside0 (kq ≤ kj8) ∧ Aside0 (Below w.heap.size w wc))
            case first =>
              have H := HC16.out
              clear HC16
              by_cases c17 : a2 < 0
              · rw [if_pos c17] at H
                have c17b0 : decide (a2 < 0) = true := decide_eq_true c17
                clear c17
                (first | rw [c17b0] | (simp only [i64_w, i32_w]; rw [c17b0]) | skip)
                have H' := Aside0.mk H
                clear H
                go_wp2
                go_meet
                case rel => exact ⟨_, (true), (by first | rfl | (simp; done) | (simp [*]; done)), H', ⟨by have := HJ8.out; first | omega | exact Nat.le_refl _⟩, ⟨by repeat (first | (with_reducible first | exact HB.out | apply below_alloc | apply pw_below_drewN | apply below_drew1) | exact HB.out)⟩⟩
              · rw [if_neg c17] at H
                have c17b0 : decide (a2 < 0) = false := decide_eq_false c17
                clear c17
                (first | rw [c17b0] | (simp only [i64_w, i32_w]; rw [c17b0]) | skip)
                have H' := Aside0.mk H
                clear H
                go_wp2
                go_meet
                case rel => exact ⟨_, (decide (a2 ≥ (t157.size : Int))), (by first | rfl | (simp; done) | (simp [*]; done)), H', ⟨by have := HJ8.out; first | omega | exact Nat.le_refl _⟩, ⟨by repeat (first | (with_reducible first | exact HB.out | apply below_alloc | apply pw_below_drewN | apply below_drew1) | exact HB.out)⟩⟩
            case rest =>
              clear HC16
              try clear c1
              try clear p2
              try clear c6
              try clear c6b0
              try clear c6b1
              try clear c7
              try clear c7b0
              try clear c7b1
              try clear c7b2
              try clear c9
              try clear c11
              try clear c13
              try clear c13b0
              try clear c13b1
              try clear c14
              try clear c14b0
              try clear c14b1
              try clear c15
              try clear c17
              try clear c17b0
              try clear p2
              obtain ⟨kq, x65_15, rfl, HA, HJ15, HB⟩ := hcut
              cases kq with
              | zero => exact absurd HA.out (by simp [ferrulelaw02_SealBack.j1])
              | succ kj15 =>
                have H := HA.out
                clear HA
                simp only [ferrulelaw02_SealBack.j1] at H
                by_cases c18 : x65_15 = true
                · subst c18
                  have H1 : (some t156) = some r := by rw [if_pos rfl] at H; exact H
                  clear H
                  have H := H1
                  clear H1
                  obtain rfl := Option.some.inj H
                  go_wp2
                  go_ret
                  exact ⟨by first | rfl | (simp [errW_none, errW_some] <;> rfl) | (simp [*, errW_none, errW_some] <;> rfl), by repeat (first | (with_reducible first | exact HB.out | apply below_alloc | apply pw_below_drewN | apply below_drew1) | exact HB.out)⟩
                · replace c18 := Bool.eq_false_iff.mpr c18
                  subst c18
                  have H1 : (if 0 ≤ a2 then (if a2 ≤ (t157.size : Int) then ((seal_Take.f kj15 (t157.extract 0 (a2 : Int).toNat)).bind fun bt162 => (if t156 = true then (if bt162.2.2 = 2 then ((seal_Whole.f kj15 (t157.extract 0 (a2 : Int).toNat)).bind fun t165 => (some (t165 == 0))) else (none)) else (none))) else (none)) else (none)) = some r := by rw [if_neg (show ¬ (false = true) by decide)] at H; exact H
                  clear H
                  have H := H1
                  clear H1
                  by_cases c19 : 0 ≤ a2
                  · rw [if_pos c19] at H
                    have c19b0 := eq_true c19
                    have c19b1 : decide (0 ≤ a2) = true := decide_eq_true c19
                    clear c19
                    by_cases c20 : a2 ≤ (t157.size : Int)
                    · rw [if_pos c20] at H
                      have c20b0 := eq_true c20
                      have c20b1 : decide (a2 ≤ (t157.size : Int)) = true := decide_eq_true c20
                      clear c20
                      replace H := Option.bind_eq_some_iff.mp H
                      obtain ⟨⟨t162, t163, t164⟩, A210, H⟩ := H
                      replace H : (if t156 = true then (if t164 = 2 then ((seal_Whole.f kj15 (t157.extract 0 (a2 : Int).toNat)).bind fun t165 => (some (t165 == 0))) else (none)) else (none)) = some r := H
                      have A21 := Aside0.mk A210
                      clear A210
                      by_cases c22 : t156 = true
                      · subst c22
                        have H1 : (if t164 = 2 then ((seal_Whole.f kj15 (t157.extract 0 (a2 : Int).toNat)).bind fun t165 => (some (t165 == 0))) else (none)) = some r := by rw [if_pos rfl] at H; exact H
                        clear H
                        have H := H1
                        clear H1
                        by_cases c23 : t164 = 2
                        · rw [if_pos c23] at H
                          have c23b0 : (t164 == 2) = true := beq_iff_eq.mpr c23
                          have c23b1 : (t164 != 2) = false := bne_eq_false_iff_eq.mpr c23
                          clear c23
                          have c24b0 := eq_true (of_decide_eq_true (by first | (with_reducible assumption) | assumption) : 0 ≤ a2)
                          have c25b0 := eq_true (of_decide_eq_true (by first | (with_reducible assumption) | assumption) : a2 ≤ (t157.size : Int))
                          replace H := Option.bind_eq_some_iff.mp H
                          obtain ⟨t165, A260, H⟩ := H
                          replace H : (some (t165 == 0)) = some r := H
                          have A26 := Aside0.mk A260
                          clear A260
                          obtain rfl := Option.some.inj H
                          go_wp2_with (first | ((with_reducible refine gate_callee (f := 18) rfl ?_); refine goesL_ (some 71) rfl rfl Try.func18 (by kernel_rfl) rfl #[.string (t157.extract 0 (a2 : Int).toNat)] rfl (by (try simp only [List.map_toArray, List.map_cons, List.map_nil]); first | done | rfl | (simp only [List.length_drop, List.length_take]; rfl)) ?_; (with_reducible refine (seal_Take.calls kj15 (t157.extract 0 (a2 : Int).toNat) t162 t163 t164 _ A21.out).mono ?_); rintro e w27 ⟨rfl, hb⟩; refine ⟨_, rfl, ?_⟩; have n0_ := Aside0.mk (below_step (by repeat (first | (with_reducible first | exact HB.out | apply below_alloc | apply pw_below_drewN | apply below_drew1) | exact HB.out)) hb); clear HB; have HB := n0_; clear n0_; (try clear hb); (try clear hb2); (try clear hk); (try clear hi)) | (go_at_call 22; (with_reducible refine (seal_Whole.calls kj15 (t157.extract 0 (a2 : Int).toNat) t165 _ A26.out).mono ?_); rintro e w28 ⟨rfl, hb⟩; have n0_ := Aside0.mk (below_step (by repeat (first | (with_reducible first | exact HB.out | apply below_alloc | apply pw_below_drewN | apply below_drew1) | exact HB.out)) hb); clear HB; have HB := n0_; clear n0_; (try clear hb); (try clear hb2); (try clear hk); (try clear hi)))
                          go_ret
                          exact ⟨by first | rfl | (simp [errW_none, errW_some] <;> rfl) | (simp [*, errW_none, errW_some] <;> rfl), by repeat (first | (with_reducible first | exact HB.out | apply below_alloc | apply pw_below_drewN | apply below_drew1) | exact HB.out)⟩
                        · rw [if_neg c23] at H
                          exact absurd H (by simp)
                      · replace c22 := Bool.eq_false_iff.mpr c22
                        subst c22
                        have H1 : (none) = some r := by rw [if_neg (show ¬ (false = true) by decide)] at H; exact H
                        clear H
                        have H := H1
                        clear H1
                        exact absurd H (by simp)
                    · rw [if_neg c20] at H
                      exact absurd H (by simp)
                  · rw [if_neg c19] at H
                    exact absurd H (by simp)
    · rw [if_neg c7] at H
      exact absurd H (by simp)
  · rw [if_neg c6] at H
    have c6b0 : (t158 == 0) = false := beq_eq_false_iff_ne.mpr c6
    have c6b1 : (t158 != 0) = true := bne_iff_ne.mpr c6
    by_cases c29 : t156 = true
    · subst c29
      have H1 : (if t158 = 4 then (if (a0.size : Int) > 65536 then (some (t157.toList == ([] : List UInt8))) else (none)) else (none)) = some r := by rw [if_pos rfl] at H; exact H
      clear H
      have H := H1
      clear H1
      by_cases c30 : t158 = 4
      · rw [if_pos c30] at H
        have c30b0 : (t158 == 4) = true := beq_iff_eq.mpr c30
        have c30b1 : (t158 != 4) = false := bne_eq_false_iff_eq.mpr c30
        clear c30
        by_cases c31 : (a0.size : Int) > 65536
        · rw [if_pos c31] at H
          have c31b0 : decide (65536 < (a0.size : Int)) = true := decide_eq_true c31
          have c31b1 : decide (65536 < a0.size) = true := decide_eq_true (by omega)
          clear c31
          obtain rfl := Option.some.inj H
          go_enter Try.func9, Try.ntmps9
          go_wp2_with (first | ((with_reducible refine gate_callee (f := 11) rfl ?_); refine goesL_ (some 16) rfl rfl Try.func11 (by kernel_rfl) rfl #[] rfl (by (try simp only [List.map_toArray, List.map_cons, List.map_nil]); first | done | rfl | (simp only [List.length_drop, List.length_take]; rfl)) ?_; (with_reducible refine (ferrulelaw02_shown.calls  true _ A4.out).mono ?_); rintro e w32 ⟨rfl, hb⟩; refine ⟨_, rfl, ?_⟩; have n0_ := Aside0.mk (below_step (by repeat (first | (with_reducible first | exact HB.out | apply below_alloc | apply pw_below_drewN | apply below_drew1) | exact HB.out)) hb); clear HB; have HB := n0_; clear n0_; (try clear hb); (try clear hb2); (try clear hk); (try clear hi)) | ((with_reducible refine gate_callee (f := 14) rfl ?_); refine goesL_ (some 19) rfl rfl Try.func14 (by kernel_rfl) rfl #[.string a0] rfl (by (try simp only [List.map_toArray, List.map_cons, List.map_nil]); first | done | rfl | (simp only [List.length_drop, List.length_take]; rfl)) ?_; (with_reducible refine (seal_Put.calls a0 t157 t158 _ A5.out).mono ?_); rintro e w33 ⟨rfl, hb⟩; refine ⟨_, rfl, ?_⟩; have n0_ := Aside0.mk (below_step (by repeat (first | (with_reducible first | exact HB.out | apply below_alloc | apply pw_below_drewN | apply below_drew1) | exact HB.out)) hb); clear HB; have HB := n0_; clear n0_; (try clear hb); (try clear hb2); (try clear hk); (try clear hi)))
          go_ret
          exact ⟨by first | rfl | (simp [errW_none, errW_some] <;> rfl) | (simp [*, errW_none, errW_some] <;> rfl), by repeat (first | (with_reducible first | exact HB.out | apply below_alloc | apply pw_below_drewN | apply below_drew1) | exact HB.out)⟩
        · rw [if_neg c31] at H
          exact absurd H (by simp)
      · rw [if_neg c30] at H
        exact absurd H (by simp)
    · replace c29 := Bool.eq_false_iff.mpr c29
      subst c29
      have H1 : (none) = some r := by rw [if_neg (show ¬ (false = true) by decide)] at H; exact H
      clear H
      have H := H1
      clear H1
      exact absurd H (by simp)

end Go.Proofs.Ytkkkpmobdaebgaa.Pr
