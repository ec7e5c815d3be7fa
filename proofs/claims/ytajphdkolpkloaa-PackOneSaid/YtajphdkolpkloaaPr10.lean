/- What the program's functions compute, and that they compute it: printed out of the translation by a program of this session's (px.py, over the kit's printer). Conditions: none. -/
import Derived.Test.YtajphdkolpkloaaPr0
import Derived.Test.YtajphdkolpkloaaPr1
import Derived.Test.YtajphdkolpkloaaPr2
import Derived.Test.YtajphdkolpkloaaHandNum
namespace Go.Proofs.Ytajphdkolpkloaa.Pr
open Go.RowKit Go.Proofs.YtajphdkolpkloaaW.PrintWords Go.Proofs.YtajphdkolpkloaaW.PrintLast Go.Proofs.YtajphdkolpkloaaW.PrintMore
attribute [local go_sem] max2_int min2_int max_two min_two max_three min_three max_four min_four   -- for this text's walks alone
set_option linter.unusedVariables false
set_option linter.unusedSimpArgs false

/-! ### ferrulelaw01_PackOne: function 7 -/
def ferrulelaw01_PackOne.j0 : Nat → ByteArray → Int → Bool → Int → Bool → Option (Bool)
  | 0, _, _, _, _, _ => none
  | k + 1, x0, x1, x5, x9, x68 => if x68 = true then (some false) else (if x1 < 0 then (some x5) else (if x1 ≥ x9 then (some x5) else (if 0 ≤ x1 then (if x1 ≤ (x0.size : Int) then ((pack_TakeNum.f k (x0.extract 0 (x1 : Int).toNat)).bind fun bt146 => (if x5 = true then (some (bt146.2.2 == 2)) else (some false))) else (none)) else (none))))
def ferrulelaw01_PackOne.f (k : Nat) (a0 : ByteArray) (a1 : Int) : Option (Bool) := (ferrulelaw01_shown.f k).bind fun t140 => ((pack_TakeNum.f k a0).bind fun bt141 => (if bt141.2.2 = 0 then ((pack_Num.f bt141.1).bind fun bt144 => (if (wrap64 ((a0.size : Int) - (bt141.2.1.size : Int))) < 1 then (ferrulelaw01_PackOne.j0 k a0 a1 t140 (wrap64 ((a0.size : Int) - (bt141.2.1.size : Int))) true) else (if (wrap64 ((a0.size : Int) - (bt141.2.1.size : Int))) > (a0.size : Int) then (ferrulelaw01_PackOne.j0 k a0 a1 t140 (wrap64 ((a0.size : Int) - (bt141.2.1.size : Int))) true) else (if bt144.2 = 0 then (if 0 ≤ (wrap64 ((a0.size : Int) - (bt141.2.1.size : Int))) then (if (wrap64 ((a0.size : Int) - (bt141.2.1.size : Int))) ≤ (a0.size : Int) then (if bt144.1.toList = (a0.extract 0 ((wrap64 ((a0.size : Int) - (bt141.2.1.size : Int))) : Int).toNat).toList then (ferrulelaw01_PackOne.j0 k a0 a1 t140 (wrap64 ((a0.size : Int) - (bt141.2.1.size : Int))) ((a0.extract ((wrap64 ((a0.size : Int) - (bt141.2.1.size : Int))) : Int).toNat a0.size).toList != bt141.2.1.toList)) else (ferrulelaw01_PackOne.j0 k a0 a1 t140 (wrap64 ((a0.size : Int) - (bt141.2.1.size : Int))) true)) else (none)) else (none)) else (ferrulelaw01_PackOne.j0 k a0 a1 t140 (wrap64 ((a0.size : Int) - (bt141.2.1.size : Int))) true))))) else (if t140 = true then (if bt141.1 = 0 then (some (bt141.2.1.toList == ([] : List UInt8))) else (some false)) else (some false))))
theorem ferrulelaw01_PackOne.mono_l : ∀ k, (∀ y0 y1 y2 y3 y4, LeO (ferrulelaw01_PackOne.j0 k y0 y1 y2 y3 y4) (ferrulelaw01_PackOne.j0 (k + 1) y0 y1 y2 y3 y4))
  | 0 => fun _ _ _ _ _ r h => by simp [ferrulelaw01_PackOne.j0] at h
  | k + 1 => by
    have ih0 := ferrulelaw01_PackOne.mono_l k
    · intro y0 y1 y2 y3 y4
      unfold ferrulelaw01_PackOne.j0
      repeat' first
      | (with_reducible exact ih0 _ _ _ _ _)
      | (with_reducible exact ferrulelaw01_shown.mono _)
      | (with_reducible exact pack_TakeNum.mono _ _)
      | (with_reducible exact LeO.refl _)
      | (with_reducible exact LeO.none _)
      | (with_reducible refine LeO.ite ?_ ?_)
      | (with_reducible refine LeO.bind ?_ (fun _ => ?_))
      | exact ih0 _ _ _ _ _
      | exact ferrulelaw01_shown.mono _
      | exact pack_TakeNum.mono _ _
      | exact LeO.none _
      | refine LeO.ite ?_ ?_
      | refine LeO.bind ?_ (fun _ => ?_)
theorem ferrulelaw01_PackOne.mono : ∀ a0 a1 k, LeO (ferrulelaw01_PackOne.f k a0 a1) (ferrulelaw01_PackOne.f (k + 1) a0 a1) := by
  intro a0 a1 k
  have ih0 := ferrulelaw01_PackOne.mono_l k
  unfold ferrulelaw01_PackOne.f
  repeat' first
      | (with_reducible exact ih0 _ _ _ _ _)
      | (with_reducible exact ferrulelaw01_shown.mono _)
      | (with_reducible exact pack_TakeNum.mono _ _)
      | (with_reducible exact LeO.refl _)
      | (with_reducible exact LeO.none _)
      | (with_reducible refine LeO.ite ?_ ?_)
      | (with_reducible refine LeO.bind ?_ (fun _ => ?_))
      | exact ih0 _ _ _ _ _
      | exact ferrulelaw01_shown.mono _
      | exact pack_TakeNum.mono _ _
      | exact LeO.none _
      | refine LeO.ite ?_ ?_
      | refine LeO.bind ?_ (fun _ => ?_)
set_option maxHeartbeats 8000000 in
set_option maxRecDepth 100000 in
theorem ferrulelaw01_PackOne.calls (k : Nat) (a0 : ByteArray) (a1 : Int) (r : Bool) (w : World) (h : ferrulelaw01_PackOne.f k a0 a1 = some r) :
    Calls Try.prog 7 #[.string a0, .int .i64 a1] w fun e w' => e = .returned (.bool r) ∧ Below w.heap.size w w' := by
  have HB := Aside0.mk (Below.refl w.heap.size w)
  have H : ((ferrulelaw01_shown.f k).bind fun t140 => ((pack_TakeNum.f k a0).bind fun bt141 => (if bt141.2.2 = 0 then ((pack_Num.f bt141.1).bind fun bt144 => (if (wrap64 ((a0.size : Int) - (bt141.2.1.size : Int))) < 1 then (ferrulelaw01_PackOne.j0 k a0 a1 t140 (wrap64 ((a0.size : Int) - (bt141.2.1.size : Int))) true) else (if (wrap64 ((a0.size : Int) - (bt141.2.1.size : Int))) > (a0.size : Int) then (ferrulelaw01_PackOne.j0 k a0 a1 t140 (wrap64 ((a0.size : Int) - (bt141.2.1.size : Int))) true) else (if bt144.2 = 0 then (if 0 ≤ (wrap64 ((a0.size : Int) - (bt141.2.1.size : Int))) then (if (wrap64 ((a0.size : Int) - (bt141.2.1.size : Int))) ≤ (a0.size : Int) then (if bt144.1.toList = (a0.extract 0 ((wrap64 ((a0.size : Int) - (bt141.2.1.size : Int))) : Int).toNat).toList then (ferrulelaw01_PackOne.j0 k a0 a1 t140 (wrap64 ((a0.size : Int) - (bt141.2.1.size : Int))) ((a0.extract ((wrap64 ((a0.size : Int) - (bt141.2.1.size : Int))) : Int).toNat a0.size).toList != bt141.2.1.toList)) else (ferrulelaw01_PackOne.j0 k a0 a1 t140 (wrap64 ((a0.size : Int) - (bt141.2.1.size : Int))) true)) else (none)) else (none)) else (ferrulelaw01_PackOne.j0 k a0 a1 t140 (wrap64 ((a0.size : Int) - (bt141.2.1.size : Int))) true))))) else (if t140 = true then (if bt141.1 = 0 then (some (bt141.2.1.toList == ([] : List UInt8))) else (some false)) else (some false))))) = some r := h
  clear h
  replace H := Option.bind_eq_some_iff.mp H
  obtain ⟨t140, A30, H⟩ := H
  replace H : ((pack_TakeNum.f k a0).bind fun bt141 => (if bt141.2.2 = 0 then ((pack_Num.f bt141.1).bind fun bt144 => (if (wrap64 ((a0.size : Int) - (bt141.2.1.size : Int))) < 1 then (ferrulelaw01_PackOne.j0 k a0 a1 t140 (wrap64 ((a0.size : Int) - (bt141.2.1.size : Int))) true) else (if (wrap64 ((a0.size : Int) - (bt141.2.1.size : Int))) > (a0.size : Int) then (ferrulelaw01_PackOne.j0 k a0 a1 t140 (wrap64 ((a0.size : Int) - (bt141.2.1.size : Int))) true) else (if bt144.2 = 0 then (if 0 ≤ (wrap64 ((a0.size : Int) - (bt141.2.1.size : Int))) then (if (wrap64 ((a0.size : Int) - (bt141.2.1.size : Int))) ≤ (a0.size : Int) then (if bt144.1.toList = (a0.extract 0 ((wrap64 ((a0.size : Int) - (bt141.2.1.size : Int))) : Int).toNat).toList then (ferrulelaw01_PackOne.j0 k a0 a1 t140 (wrap64 ((a0.size : Int) - (bt141.2.1.size : Int))) ((a0.extract ((wrap64 ((a0.size : Int) - (bt141.2.1.size : Int))) : Int).toNat a0.size).toList != bt141.2.1.toList)) else (ferrulelaw01_PackOne.j0 k a0 a1 t140 (wrap64 ((a0.size : Int) - (bt141.2.1.size : Int))) true)) else (none)) else (none)) else (ferrulelaw01_PackOne.j0 k a0 a1 t140 (wrap64 ((a0.size : Int) - (bt141.2.1.size : Int))) true))))) else (if t140 = true then (if bt141.1 = 0 then (some (bt141.2.1.toList == ([] : List UInt8))) else (some false)) else (some false)))) = some r := H
  have A3 := Aside0.mk A30
  clear A30
  replace H := Option.bind_eq_some_iff.mp H
  obtain ⟨⟨t141, t142, t143⟩, A40, H⟩ := H
  replace H : (if t143 = 0 then ((pack_Num.f t141).bind fun bt144 => (if (wrap64 ((a0.size : Int) - (t142.size : Int))) < 1 then (ferrulelaw01_PackOne.j0 k a0 a1 t140 (wrap64 ((a0.size : Int) - (t142.size : Int))) true) else (if (wrap64 ((a0.size : Int) - (t142.size : Int))) > (a0.size : Int) then (ferrulelaw01_PackOne.j0 k a0 a1 t140 (wrap64 ((a0.size : Int) - (t142.size : Int))) true) else (if bt144.2 = 0 then (if 0 ≤ (wrap64 ((a0.size : Int) - (t142.size : Int))) then (if (wrap64 ((a0.size : Int) - (t142.size : Int))) ≤ (a0.size : Int) then (if bt144.1.toList = (a0.extract 0 ((wrap64 ((a0.size : Int) - (t142.size : Int))) : Int).toNat).toList then (ferrulelaw01_PackOne.j0 k a0 a1 t140 (wrap64 ((a0.size : Int) - (t142.size : Int))) ((a0.extract ((wrap64 ((a0.size : Int) - (t142.size : Int))) : Int).toNat a0.size).toList != t142.toList)) else (ferrulelaw01_PackOne.j0 k a0 a1 t140 (wrap64 ((a0.size : Int) - (t142.size : Int))) true)) else (none)) else (none)) else (ferrulelaw01_PackOne.j0 k a0 a1 t140 (wrap64 ((a0.size : Int) - (t142.size : Int))) true))))) else (if t140 = true then (if t141 = 0 then (some (t142.toList == ([] : List UInt8))) else (some false)) else (some false))) = some r := H
  have A4 := Aside0.mk A40
  clear A40
  by_cases c5 : t143 = 0
  · rw [if_pos c5] at H
    have c5b0 : (t143 == 0) = true := beq_iff_eq.mpr c5
    have c5b1 : (t143 != 0) = false := bne_eq_false_iff_eq.mpr c5
    clear c5
    replace H := Option.bind_eq_some_iff.mp H
    obtain ⟨⟨t144, t145⟩, A60, H⟩ := H
    replace H : (if (wrap64 ((a0.size : Int) - (t142.size : Int))) < 1 then (ferrulelaw01_PackOne.j0 k a0 a1 t140 (wrap64 ((a0.size : Int) - (t142.size : Int))) true) else (if (wrap64 ((a0.size : Int) - (t142.size : Int))) > (a0.size : Int) then (ferrulelaw01_PackOne.j0 k a0 a1 t140 (wrap64 ((a0.size : Int) - (t142.size : Int))) true) else (if t145 = 0 then (if 0 ≤ (wrap64 ((a0.size : Int) - (t142.size : Int))) then (if (wrap64 ((a0.size : Int) - (t142.size : Int))) ≤ (a0.size : Int) then (if t144.toList = (a0.extract 0 ((wrap64 ((a0.size : Int) - (t142.size : Int))) : Int).toNat).toList then (ferrulelaw01_PackOne.j0 k a0 a1 t140 (wrap64 ((a0.size : Int) - (t142.size : Int))) ((a0.extract ((wrap64 ((a0.size : Int) - (t142.size : Int))) : Int).toNat a0.size).toList != t142.toList)) else (ferrulelaw01_PackOne.j0 k a0 a1 t140 (wrap64 ((a0.size : Int) - (t142.size : Int))) true)) else (none)) else (none)) else (ferrulelaw01_PackOne.j0 k a0 a1 t140 (wrap64 ((a0.size : Int) - (t142.size : Int))) true)))) = some r := H
    have A6 := Aside0.mk A60
    clear A60
    have HC7 := Aside0.mk H
    clear H
    go_enter Try.func7, Try.ntmps7
    go_upto_region 7 with (first | ((with_reducible refine gate_callee (f := 11) rfl ?_); refine goesL_ (some 15) rfl rfl Try.func11 (by kernel_rfl) rfl #[] rfl (by (try simp only [List.map_toArray, List.map_cons, List.map_nil]); first | done | rfl | (simp only [List.length_drop, List.length_take]; rfl)) ?_; (with_reducible refine (ferrulelaw01_shown.calls k  t140 _ A3.out).mono ?_); rintro e w8 ⟨rfl, hb⟩; refine ⟨_, rfl, ?_⟩; have n0_ := Aside0.mk (below_step (by repeat (first | (with_reducible first | exact HB.out | apply below_alloc | apply pw_below_drewN | apply below_drew1) | exact HB.out)) hb); clear HB; have HB := n0_; clear n0_; (try clear hb); (try clear hb2); (try clear hk); (try clear hi)) | ((with_reducible refine gate_callee (f := 16) rfl ?_); refine goesL_ (some 18) rfl rfl Try.func16 (by kernel_rfl) rfl #[.string a0] rfl (by (try simp only [List.map_toArray, List.map_cons, List.map_nil]); first | done | rfl | (simp only [List.length_drop, List.length_take]; rfl)) ?_; (with_reducible refine (pack_TakeNum.calls k a0 t141 t142 t143 _ A4.out).mono ?_); rintro e w' ⟨rfl, ⟨nd, rfl⟩⟩; refine ⟨_, rfl, ?_⟩) | ((with_reducible refine gate_callee (f := 13) rfl ?_); refine goesL_ (some 40) rfl rfl Try.func13 (by kernel_rfl) rfl #[.int .u64 t141] rfl (by (try simp only [List.map_toArray, List.map_cons, List.map_nil]); first | done | rfl | (simp only [List.length_drop, List.length_take]; rfl)) ?_; (with_reducible refine (pack_Num.calls t141 t144 t145 _ A6.out).mono ?_); rintro e w9 ⟨rfl, hb⟩; refine ⟨_, rfl, ?_⟩; have n0_ := Aside0.mk (below_step (by repeat (first | (with_reducible first | exact HB.out | apply below_alloc | apply pw_below_drewN | apply below_drew1) | exact HB.out)) hb); clear HB; have HB := n0_; clear n0_; (try clear hb); (try clear hb2); (try clear hk); (try clear hi)))
    (try simp only [Act.put, List.setIfInBounds_toArray, List.set_cons_zero, List.set_cons_succ])
    go_cut [68] (fun v68 wc => ∃ (kq : Nat) (x68_6 : Bool), v68 = .bool x68_6 ∧ Aside0 (ferrulelaw01_PackOne.j0 kq a0 a1 t140 (wrap64 ((a0.size : Int) - (t142.size : Int))) x68_6 = some r) ∧ Aside0 (kq ≤ k) ∧ Aside0 (Below w.heap.size w wc))
    case first =>
      have H := HC7.out
      clear HC7
      by_cases c10 : (wrap64 ((a0.size : Int) - (t142.size : Int))) < 1
      · rw [if_pos c10] at H
        have c10b0 : decide ((wrap64 ((a0.size : Int) - (t142.size : Int))) < 1) = true := decide_eq_true c10
        clear c10
        (first | rw [c10b0] | (simp only [i64_w, i32_w]; rw [c10b0]) | skip)
        have H' := Aside0.mk H
        clear H
        go_wp2
        go_meet
        case rel => exact ⟨_, (true), (by first | rfl | (simp; done) | (simp [*]; done)), H', ⟨by first | omega | exact Nat.le_refl _⟩, ⟨by repeat (first | (with_reducible first | exact HB.out | apply below_alloc | apply pw_below_drewN | apply below_drew1) | exact HB.out)⟩⟩
      · rw [if_neg c10] at H
        have c10b0 : decide ((wrap64 ((a0.size : Int) - (t142.size : Int))) < 1) = false := decide_eq_false c10
        clear c10
        (first | rw [c10b0] | (simp only [i64_w, i32_w]; rw [c10b0]) | skip)
        by_cases c11 : (wrap64 ((a0.size : Int) - (t142.size : Int))) > (a0.size : Int)
        · rw [if_pos c11] at H
          have c11b0 : decide ((a0.size : Int) < (wrap64 ((a0.size : Int) - (t142.size : Int)))) = true := decide_eq_true c11
          clear c11
          have H' := Aside0.mk H
          clear H
          go_wp2
          go_meet
          case rel => exact ⟨_, (true), (by first | rfl | (simp; done) | (simp [*]; done)), H', ⟨by first | omega | exact Nat.le_refl _⟩, ⟨by repeat (first | (with_reducible first | exact HB.out | apply below_alloc | apply pw_below_drewN | apply below_drew1) | exact HB.out)⟩⟩
        · rw [if_neg c11] at H
          have c11b0 : decide ((a0.size : Int) < (wrap64 ((a0.size : Int) - (t142.size : Int)))) = false := decide_eq_false c11
          clear c11
          by_cases c12 : t145 = 0
          · rw [if_pos c12] at H
            have c12b0 : (t145 == 0) = true := beq_iff_eq.mpr c12
            have c12b1 : (t145 != 0) = false := bne_eq_false_iff_eq.mpr c12
            clear c12
            obtain ⟨ji13, hji13⟩ : ∃ j_ : Int, (wrap64 ((a0.size : Int) - (t142.size : Int))) = j_ := ⟨_, rfl⟩
            replace H : (if 0 ≤ (ji13) then (if (ji13) ≤ (a0.size : Int) then (if t144.toList = (a0.extract 0 ((ji13) : Int).toNat).toList then (ferrulelaw01_PackOne.j0 k a0 a1 t140 ji13 ((a0.extract ((ji13) : Int).toNat a0.size).toList != t142.toList)) else (ferrulelaw01_PackOne.j0 k a0 a1 t140 ji13 true)) else (none)) else (none)) = some r := by first | (rw [hji13] at H; exact H) | (simp only [hji13] at H ⊢; exact H)
            (try rw [hji13] at c10b0)
            (try rw [hji13] at c11b0)
            have hji13w : (IntKind.i64.wrap ((a0.size : Int) - (t142.size : Int))) = ji13 := (i64_w _).trans hji13
            by_cases c14 : 0 ≤ (ji13)
            · rw [if_pos c14] at H
              have c14b0 := eq_true c14
              have c14b1 : decide (0 ≤ (ji13)) = true := decide_eq_true c14
              clear c14
              by_cases c15 : (ji13) ≤ (a0.size : Int)
              · rw [if_pos c15] at H
                have c15b0 := eq_true c15
                have c15b1 : decide ((ji13) ≤ (a0.size : Int)) = true := decide_eq_true c15
                clear c15
                by_cases c16 : t144.toList = (a0.extract 0 ((ji13) : Int).toNat).toList
                · rw [if_pos c16] at H
                  have c16b0 : (t144.toList == (a0.extract 0 ((ji13) : Int).toNat).toList) = true := beq_iff_eq.mpr c16
                  have c16b1 : (t144.toList != (a0.extract 0 ((ji13) : Int).toNat).toList) = false := bne_eq_false_iff_eq.mpr c16
                  clear c16
                  have c17b0 := eq_true (of_decide_eq_true (by first | (with_reducible assumption) | assumption) : 0 ≤ (ji13))
                  have c18b0 := eq_true (of_decide_eq_true (by first | (with_reducible assumption) | assumption) : (ji13) ≤ (a0.size : Int))
                  have H' := Aside0.mk H
                  clear H
                  go_wp2
                  go_meet
                  case rel => subst hji13; exact ⟨_, (((a0.extract ((wrap64 ((a0.size : Int) - (t142.size : Int))) : Int).toNat a0.size).toList != t142.toList)), (by first | rfl | (simp; done) | (simp only [← hji13] <;> (first | rfl | simp)) | (simp [*]; done)), (by first | exact H' | (simp only [← hji13]; exact H')), ⟨by first | omega | exact Nat.le_refl _⟩, ⟨by repeat (first | (with_reducible first | exact HB.out | apply below_alloc | apply pw_below_drewN | apply below_drew1) | exact HB.out)⟩⟩
                · rw [if_neg c16] at H
                  have c16b0 : (t144.toList == (a0.extract 0 ((ji13) : Int).toNat).toList) = false := beq_eq_false_iff_ne.mpr c16
                  have c16b1 : (t144.toList != (a0.extract 0 ((ji13) : Int).toNat).toList) = true := bne_iff_ne.mpr c16
                  have H' := Aside0.mk H
                  clear H
                  go_wp2
                  go_meet
                  case rel => subst hji13; exact ⟨_, (true), (by first | rfl | (simp; done) | (simp [*]; done)), H', ⟨by first | omega | exact Nat.le_refl _⟩, ⟨by repeat (first | (with_reducible first | exact HB.out | apply below_alloc | apply pw_below_drewN | apply below_drew1) | exact HB.out)⟩⟩
              · rw [if_neg c15] at H
                exact absurd H (by simp)
            · rw [if_neg c14] at H
              exact absurd H (by simp)
          · rw [if_neg c12] at H
            have c12b0 : (t145 == 0) = false := beq_eq_false_iff_ne.mpr c12
            have c12b1 : (t145 != 0) = true := bne_iff_ne.mpr c12
            have H' := Aside0.mk H
            clear H
            go_wp2
            go_meet
            case rel => exact ⟨_, (true), (by first | rfl | (simp; done) | (simp [*]; done)), H', ⟨by first | omega | exact Nat.le_refl _⟩, ⟨by repeat (first | (with_reducible first | exact HB.out | apply below_alloc | apply pw_below_drewN | apply below_drew1) | exact HB.out)⟩⟩
    case rest =>
      clear HC7
      try clear c1
      try clear p2
      try clear c5
      try clear c5b0
      try clear c5b1
      try clear p6
      try clear c7
      try clear c10
      try clear c10b0
      try clear c11
      try clear c11b0
      try clear c12
      try clear c12b0
      try clear c12b1
      try clear c13
      try clear c14
      try clear c14b0
      try clear c14b1
      try clear c15
      try clear c15b0
      try clear c15b1
      try clear c16
      try clear c16b0
      try clear c16b1
      try clear c17
      try clear c17b0
      try clear c18
      try clear c18b0
      obtain ⟨kq, x68_6, rfl, HA, HJ6, HB⟩ := hcut
      cases kq with
      | zero => exact absurd HA.out (by simp [ferrulelaw01_PackOne.j0])
      | succ kj6 =>
        have H := HA.out
        clear HA
        simp only [ferrulelaw01_PackOne.j0] at H
        by_cases c19 : x68_6 = true
        · subst c19
          have H1 : (some false) = some r := by rw [if_pos rfl] at H; exact H
          clear H
          have H := H1
          clear H1
          obtain rfl := Option.some.inj H
          go_wp2
          go_ret
          exact ⟨by first | rfl | (simp [errW_none, errW_some] <;> rfl) | (simp [*, errW_none, errW_some] <;> rfl), by repeat (first | (with_reducible first | exact HB.out | apply below_alloc | apply pw_below_drewN | apply below_drew1) | exact HB.out)⟩
        · replace c19 := Bool.eq_false_iff.mpr c19
          subst c19
          have H1 : (if a1 < 0 then (some t140) else (if a1 ≥ (wrap64 ((a0.size : Int) - (t142.size : Int))) then (some t140) else (if 0 ≤ a1 then (if a1 ≤ (a0.size : Int) then ((pack_TakeNum.f kj6 (a0.extract 0 (a1 : Int).toNat)).bind fun bt146 => (if t140 = true then (some (bt146.2.2 == 2)) else (some false))) else (none)) else (none)))) = some r := by rw [if_neg (show ¬ (false = true) by decide)] at H; exact H
          clear H
          have H := H1
          clear H1
          by_cases c20 : a1 < 0
          · rw [if_pos c20] at H
            have c20b0 : decide (a1 < 0) = true := decide_eq_true c20
            clear c20
            obtain rfl := Option.some.inj H
            go_wp2
            go_ret
            exact ⟨by first | rfl | (simp [errW_none, errW_some] <;> rfl) | (simp [*, errW_none, errW_some] <;> rfl), by repeat (first | (with_reducible first | exact HB.out | apply below_alloc | apply pw_below_drewN | apply below_drew1) | exact HB.out)⟩
          · rw [if_neg c20] at H
            have c20b0 : decide (a1 < 0) = false := decide_eq_false c20
            clear c20
            by_cases c21 : a1 ≥ (wrap64 ((a0.size : Int) - (t142.size : Int)))
            · rw [if_pos c21] at H
              have c21b0 : decide ((wrap64 ((a0.size : Int) - (t142.size : Int))) ≤ a1) = true := decide_eq_true c21
              clear c21
              obtain rfl := Option.some.inj H
              go_wp2
              go_ret
              exact ⟨by first | rfl | (simp [errW_none, errW_some] <;> rfl) | (simp [*, errW_none, errW_some] <;> rfl), by repeat (first | (with_reducible first | exact HB.out | apply below_alloc | apply pw_below_drewN | apply below_drew1) | exact HB.out)⟩
            · rw [if_neg c21] at H
              have c21b0 : decide ((wrap64 ((a0.size : Int) - (t142.size : Int))) ≤ a1) = false := decide_eq_false c21
              clear c21
              by_cases c22 : 0 ≤ a1
              · rw [if_pos c22] at H
                have c22b0 := eq_true c22
                have c22b1 : decide (0 ≤ a1) = true := decide_eq_true c22
                clear c22
                by_cases c23 : a1 ≤ (a0.size : Int)
                · rw [if_pos c23] at H
                  have c23b0 := eq_true c23
                  have c23b1 : decide (a1 ≤ (a0.size : Int)) = true := decide_eq_true c23
                  clear c23
                  replace H := Option.bind_eq_some_iff.mp H
                  obtain ⟨⟨t146, t147, t148⟩, A240, H⟩ := H
                  replace H : (if t140 = true then (some (t148 == 2)) else (some false)) = some r := H
                  have A24 := Aside0.mk A240
                  clear A240
                  by_cases c25 : t140 = true
                  · subst c25
                    have H1 : (some (t148 == 2)) = some r := by rw [if_pos rfl] at H; exact H
                    clear H
                    have H := H1
                    clear H1
                    obtain rfl := Option.some.inj H
                    go_wp2_with (first | ((with_reducible refine gate_callee (f := 16) rfl ?_); refine goesL_ (some 81) rfl rfl Try.func16 (by kernel_rfl) rfl #[.string (a0.extract 0 (a1 : Int).toNat)] rfl (by (try simp only [List.map_toArray, List.map_cons, List.map_nil]); first | done | rfl | (simp only [List.length_drop, List.length_take]; rfl)) ?_; (with_reducible refine (pack_TakeNum.calls kj6 (a0.extract 0 (a1 : Int).toNat) t146 t147 t148 _ A24.out).mono ?_); rintro e w' ⟨rfl, ⟨nd, rfl⟩⟩; refine ⟨_, rfl, ?_⟩))
                    go_ret
                    exact ⟨by first | rfl | (simp [errW_none, errW_some] <;> rfl) | (simp [*, errW_none, errW_some] <;> rfl), by repeat (first | (with_reducible first | exact HB.out | apply below_alloc | apply pw_below_drewN | apply below_drew1) | exact HB.out)⟩
                  · replace c25 := Bool.eq_false_iff.mpr c25
                    subst c25
                    have H1 : (some false) = some r := by rw [if_neg (show ¬ (false = true) by decide)] at H; exact H
                    clear H
                    have H := H1
                    clear H1
                    obtain rfl := Option.some.inj H
                    go_wp2_with (first | ((with_reducible refine gate_callee (f := 16) rfl ?_); refine goesL_ (some 81) rfl rfl Try.func16 (by kernel_rfl) rfl #[.string (a0.extract 0 (a1 : Int).toNat)] rfl (by (try simp only [List.map_toArray, List.map_cons, List.map_nil]); first | done | rfl | (simp only [List.length_drop, List.length_take]; rfl)) ?_; (with_reducible refine (pack_TakeNum.calls kj6 (a0.extract 0 (a1 : Int).toNat) t146 t147 t148 _ A24.out).mono ?_); rintro e w' ⟨rfl, ⟨nd, rfl⟩⟩; refine ⟨_, rfl, ?_⟩))
                    go_ret
                    exact ⟨by first | rfl | (simp [errW_none, errW_some] <;> rfl) | (simp [*, errW_none, errW_some] <;> rfl), by repeat (first | (with_reducible first | exact HB.out | apply below_alloc | apply pw_below_drewN | apply below_drew1) | exact HB.out)⟩
                · rw [if_neg c23] at H
                  exact absurd H (by simp)
              · rw [if_neg c22] at H
                exact absurd H (by simp)
  · rw [if_neg c5] at H
    have c5b0 : (t143 == 0) = false := beq_eq_false_iff_ne.mpr c5
    have c5b1 : (t143 != 0) = true := bne_iff_ne.mpr c5
    by_cases c26 : t140 = true
    · subst c26
      have H1 : (if t141 = 0 then (some (t142.toList == ([] : List UInt8))) else (some false)) = some r := by rw [if_pos rfl] at H; exact H
      clear H
      have H := H1
      clear H1
      by_cases c27 : t141 = 0
      · rw [if_pos c27] at H
        have c27b0 : (t141 == 0) = true := beq_iff_eq.mpr c27
        have c27b1 : (t141 != 0) = false := bne_eq_false_iff_eq.mpr c27
        clear c27
        obtain rfl := Option.some.inj H
        go_enter Try.func7, Try.ntmps7
        go_wp2_with (first | ((with_reducible refine gate_callee (f := 11) rfl ?_); refine goesL_ (some 15) rfl rfl Try.func11 (by kernel_rfl) rfl #[] rfl (by (try simp only [List.map_toArray, List.map_cons, List.map_nil]); first | done | rfl | (simp only [List.length_drop, List.length_take]; rfl)) ?_; (with_reducible refine (ferrulelaw01_shown.calls k  true _ A3.out).mono ?_); rintro e w28 ⟨rfl, hb⟩; refine ⟨_, rfl, ?_⟩; have n0_ := Aside0.mk (below_step (by repeat (first | (with_reducible first | exact HB.out | apply below_alloc | apply pw_below_drewN | apply below_drew1) | exact HB.out)) hb); clear HB; have HB := n0_; clear n0_; (try clear hb); (try clear hb2); (try clear hk); (try clear hi)) | ((with_reducible refine gate_callee (f := 16) rfl ?_); refine goesL_ (some 18) rfl rfl Try.func16 (by kernel_rfl) rfl #[.string a0] rfl (by (try simp only [List.map_toArray, List.map_cons, List.map_nil]); first | done | rfl | (simp only [List.length_drop, List.length_take]; rfl)) ?_; (with_reducible refine (pack_TakeNum.calls k a0 t141 t142 t143 _ A4.out).mono ?_); rintro e w' ⟨rfl, ⟨nd, rfl⟩⟩; refine ⟨_, rfl, ?_⟩))
        go_ret
        exact ⟨by first | rfl | (simp [errW_none, errW_some] <;> rfl) | (simp [*, errW_none, errW_some] <;> rfl), by repeat (first | (with_reducible first | exact HB.out | apply below_alloc | apply pw_below_drewN | apply below_drew1) | exact HB.out)⟩
      · rw [if_neg c27] at H
        have c27b0 : (t141 == 0) = false := beq_eq_false_iff_ne.mpr c27
        have c27b1 : (t141 != 0) = true := bne_iff_ne.mpr c27
        obtain rfl := Option.some.inj H
        go_enter Try.func7, Try.ntmps7
        go_wp2_with (first | ((with_reducible refine gate_callee (f := 11) rfl ?_); refine goesL_ (some 15) rfl rfl Try.func11 (by kernel_rfl) rfl #[] rfl (by (try simp only [List.map_toArray, List.map_cons, List.map_nil]); first | done | rfl | (simp only [List.length_drop, List.length_take]; rfl)) ?_; (with_reducible refine (ferrulelaw01_shown.calls k  true _ A3.out).mono ?_); rintro e w29 ⟨rfl, hb⟩; refine ⟨_, rfl, ?_⟩; have n0_ := Aside0.mk (below_step (by repeat (first | (with_reducible first | exact HB.out | apply below_alloc | apply pw_below_drewN | apply below_drew1) | exact HB.out)) hb); clear HB; have HB := n0_; clear n0_; (try clear hb); (try clear hb2); (try clear hk); (try clear hi)) | ((with_reducible refine gate_callee (f := 16) rfl ?_); refine goesL_ (some 18) rfl rfl Try.func16 (by kernel_rfl) rfl #[.string a0] rfl (by (try simp only [List.map_toArray, List.map_cons, List.map_nil]); first | done | rfl | (simp only [List.length_drop, List.length_take]; rfl)) ?_; (with_reducible refine (pack_TakeNum.calls k a0 t141 t142 t143 _ A4.out).mono ?_); rintro e w' ⟨rfl, ⟨nd, rfl⟩⟩; refine ⟨_, rfl, ?_⟩))
        go_ret
        exact ⟨by first | rfl | (simp [errW_none, errW_some] <;> rfl) | (simp [*, errW_none, errW_some] <;> rfl), by repeat (first | (with_reducible first | exact HB.out | apply below_alloc | apply pw_below_drewN | apply below_drew1) | exact HB.out)⟩
    · replace c26 := Bool.eq_false_iff.mpr c26
      subst c26
      have H1 : (some false) = some r := by rw [if_neg (show ¬ (false = true) by decide)] at H; exact H
      clear H
      have H := H1
      clear H1
      obtain rfl := Option.some.inj H
      go_enter Try.func7, Try.ntmps7
      go_wp2_with (first | ((with_reducible refine gate_callee (f := 11) rfl ?_); refine goesL_ (some 15) rfl rfl Try.func11 (by kernel_rfl) rfl #[] rfl (by (try simp only [List.map_toArray, List.map_cons, List.map_nil]); first | done | rfl | (simp only [List.length_drop, List.length_take]; rfl)) ?_; (with_reducible refine (ferrulelaw01_shown.calls k  false _ A3.out).mono ?_); rintro e w30 ⟨rfl, hb⟩; refine ⟨_, rfl, ?_⟩; have n0_ := Aside0.mk (below_step (by repeat (first | (with_reducible first | exact HB.out | apply below_alloc | apply pw_below_drewN | apply below_drew1) | exact HB.out)) hb); clear HB; have HB := n0_; clear n0_; (try clear hb); (try clear hb2); (try clear hk); (try clear hi)) | ((with_reducible refine gate_callee (f := 16) rfl ?_); refine goesL_ (some 18) rfl rfl Try.func16 (by kernel_rfl) rfl #[.string a0] rfl (by (try simp only [List.map_toArray, List.map_cons, List.map_nil]); first | done | rfl | (simp only [List.length_drop, List.length_take]; rfl)) ?_; (with_reducible refine (pack_TakeNum.calls k a0 t141 t142 t143 _ A4.out).mono ?_); rintro e w' ⟨rfl, ⟨nd, rfl⟩⟩; refine ⟨_, rfl, ?_⟩))
      go_ret
      exact ⟨by first | rfl | (simp [errW_none, errW_some] <;> rfl) | (simp [*, errW_none, errW_some] <;> rfl), by repeat (first | (with_reducible first | exact HB.out | apply below_alloc | apply pw_below_drewN | apply below_drew1) | exact HB.out)⟩

end Go.Proofs.Ytajphdkolpkloaa.Pr
