/- What the program's functions compute, and that they compute it: printed out of the translation by a program of this session's (px.py, over the kit's printer). Conditions: none. -/
import Derived.Test.YtajphdkolpkloaaPr0
import Derived.Test.YtajphdkolpkloaaPr2
import Derived.Test.YtajphdkolpkloaaPr6
import Derived.Test.YtajphdkolpkloaaPr7
import Derived.Test.YtajphdkolpkloaaHandNums
import Derived.Test.YtajphdkolpkloaaHandRNums
import Derived.Test.YtajphdkolpkloaaHandTakes
namespace Go.Proofs.Ytajphdkolpkloaa.Pr
open Go.RowKit Go.Proofs.YtajphdkolpkloaaW.PrintWords Go.Proofs.YtajphdkolpkloaaW.PrintLast Go.Proofs.YtajphdkolpkloaaW.PrintMore
attribute [local go_sem] max2_int min2_int max_two min_two max_three min_three max_four min_four   -- for this text's walks alone
set_option linter.unusedVariables false
set_option linter.unusedSimpArgs false

/-! ### ferrulelaw01_PackLists: function 10 -/
def ferrulelaw01_PackLists.f (k : Nat) (l0 : List Int) (a1 : ByteArray) (a2 : Int) : Option (Bool) := (ferrulelaw01_shown.f k).bind fun t128 => ((pack_Nums.f l0).bind fun bt129 => ((ref_Nums.f k l0).bind fun bt131 => ((pack_TakeNums.f k a1 a2).bind fun bt133 => ((ferruleref01_TakeNums.f k a1 a2).bind fun bt138 => ((ferruleref01_Same.f k bt133.1 bt138.1).bind fun t143 => (if t128 = true then (if bt129.1.toList = bt131.1.toList then (if bt129.2 = bt131.2 then (if t143 = true then (if bt133.2.1.toList = bt138.2.1.toList then (some (bt133.2.2 == bt138.2.2)) else (none)) else (none)) else (none)) else (none)) else (none)))))))
theorem ferrulelaw01_PackLists.mono : ∀ a0 a1 a2 k, LeO (ferrulelaw01_PackLists.f k a0 a1 a2) (ferrulelaw01_PackLists.f (k + 1) a0 a1 a2) := by
  intro a0 a1 a2 k
  unfold ferrulelaw01_PackLists.f
  repeat' first
      | (with_reducible exact ferrulelaw01_shown.mono _)
      | (with_reducible exact ferruleref01_Same.mono _ _ _)
      | (with_reducible exact ferruleref01_TakeNums.mono _ _ _)
      | (with_reducible exact pack_TakeNums.mono _ _ _)
      | (with_reducible exact ref_Nums.mono _ _)
      | (with_reducible exact LeO.refl _)
      | (with_reducible exact LeO.none _)
      | (with_reducible refine LeO.ite ?_ ?_)
      | (with_reducible refine LeO.bind ?_ (fun _ => ?_))
      | exact ferrulelaw01_shown.mono _
      | exact ferruleref01_Same.mono _ _ _
      | exact ferruleref01_TakeNums.mono _ _ _
      | exact pack_TakeNums.mono _ _ _
      | exact ref_Nums.mono _ _
      | exact LeO.none _
      | refine LeO.ite ?_ ?_
      | refine LeO.bind ?_ (fun _ => ?_)
set_option maxHeartbeats 8000000 in
set_option maxRecDepth 100000 in
theorem ferrulelaw01_PackLists.calls (k : Nat) (A0 : Option Addr) (c0 : Nat) (l0 : List Int) (a1 : ByteArray) (a2 : Int) (r : Bool) (w : World) (hr0 : Kd.C (Kd.int .u64) w A0 l0.length l0) (hc0 : l0.length ≤ c0) (h : ferrulelaw01_PackLists.f k l0 a1 a2 = some r) :
    Calls Try.prog 10 #[.slice A0 l0.length c0, .string a1, .int .i64 a2] w fun e w' => e = .returned (.bool r) ∧ Below w.heap.size w w' := by
  have HR0 := Aside0.mk hr0
  have HC0 := Aside0.mk hc0
  clear hr0 hc0
  have HB := Aside0.mk (Below.refl w.heap.size w)
  have H : ((ferrulelaw01_shown.f k).bind fun t128 => ((pack_Nums.f l0).bind fun bt129 => ((ref_Nums.f k l0).bind fun bt131 => ((pack_TakeNums.f k a1 a2).bind fun bt133 => ((ferruleref01_TakeNums.f k a1 a2).bind fun bt138 => ((ferruleref01_Same.f k bt133.1 bt138.1).bind fun t143 => (if t128 = true then (if bt129.1.toList = bt131.1.toList then (if bt129.2 = bt131.2 then (if t143 = true then (if bt133.2.1.toList = bt138.2.1.toList then (some (bt133.2.2 == bt138.2.2)) else (none)) else (none)) else (none)) else (none)) else (none)))))))) = some r := h
  clear h
  replace H := Option.bind_eq_some_iff.mp H
  obtain ⟨t128, A40, H⟩ := H
  replace H : ((pack_Nums.f l0).bind fun bt129 => ((ref_Nums.f k l0).bind fun bt131 => ((pack_TakeNums.f k a1 a2).bind fun bt133 => ((ferruleref01_TakeNums.f k a1 a2).bind fun bt138 => ((ferruleref01_Same.f k bt133.1 bt138.1).bind fun t143 => (if t128 = true then (if bt129.1.toList = bt131.1.toList then (if bt129.2 = bt131.2 then (if t143 = true then (if bt133.2.1.toList = bt138.2.1.toList then (some (bt133.2.2 == bt138.2.2)) else (none)) else (none)) else (none)) else (none)) else (none))))))) = some r := H
  have A4 := Aside0.mk A40
  clear A40
  replace H := Option.bind_eq_some_iff.mp H
  obtain ⟨⟨t129, t130⟩, A50, H⟩ := H
  replace H : ((ref_Nums.f k l0).bind fun bt131 => ((pack_TakeNums.f k a1 a2).bind fun bt133 => ((ferruleref01_TakeNums.f k a1 a2).bind fun bt138 => ((ferruleref01_Same.f k bt133.1 bt138.1).bind fun t143 => (if t128 = true then (if t129.toList = bt131.1.toList then (if t130 = bt131.2 then (if t143 = true then (if bt133.2.1.toList = bt138.2.1.toList then (some (bt133.2.2 == bt138.2.2)) else (none)) else (none)) else (none)) else (none)) else (none)))))) = some r := H
  have A5 := Aside0.mk A50
  clear A50
  replace H := Option.bind_eq_some_iff.mp H
  obtain ⟨⟨t131, t132⟩, A60, H⟩ := H
  replace H : ((pack_TakeNums.f k a1 a2).bind fun bt133 => ((ferruleref01_TakeNums.f k a1 a2).bind fun bt138 => ((ferruleref01_Same.f k bt133.1 bt138.1).bind fun t143 => (if t128 = true then (if t129.toList = t131.toList then (if t130 = t132 then (if t143 = true then (if bt133.2.1.toList = bt138.2.1.toList then (some (bt133.2.2 == bt138.2.2)) else (none)) else (none)) else (none)) else (none)) else (none))))) = some r := H
  have A6 := Aside0.mk A60
  clear A60
  replace H := Option.bind_eq_some_iff.mp H
  obtain ⟨⟨t133, t134, t135⟩, A70, H⟩ := H
  replace H : ((ferruleref01_TakeNums.f k a1 a2).bind fun bt138 => ((ferruleref01_Same.f k t133 bt138.1).bind fun t143 => (if t128 = true then (if t129.toList = t131.toList then (if t130 = t132 then (if t143 = true then (if t134.toList = bt138.2.1.toList then (some (t135 == bt138.2.2)) else (none)) else (none)) else (none)) else (none)) else (none)))) = some r := H
  have A7 := Aside0.mk A70
  clear A70
  replace H := Option.bind_eq_some_iff.mp H
  obtain ⟨⟨t138, t139, t140⟩, A80, H⟩ := H
  replace H : ((ferruleref01_Same.f k t133 t138).bind fun t143 => (if t128 = true then (if t129.toList = t131.toList then (if t130 = t132 then (if t143 = true then (if t134.toList = t139.toList then (some (t135 == t140)) else (none)) else (none)) else (none)) else (none)) else (none))) = some r := H
  have A8 := Aside0.mk A80
  clear A80
  replace H := Option.bind_eq_some_iff.mp H
  obtain ⟨t143, A90, H⟩ := H
  replace H : (if t128 = true then (if t129.toList = t131.toList then (if t130 = t132 then (if t143 = true then (if t134.toList = t139.toList then (some (t135 == t140)) else (none)) else (none)) else (none)) else (none)) else (none)) = some r := H
  have A9 := Aside0.mk A90
  clear A90
  by_cases c10 : t128 = true
  · subst c10
    have H1 : (if t129.toList = t131.toList then (if t130 = t132 then (if t143 = true then (if t134.toList = t139.toList then (some (t135 == t140)) else (none)) else (none)) else (none)) else (none)) = some r := by rw [if_pos rfl] at H; exact H
    clear H
    have H := H1
    clear H1
    by_cases c11 : t129.toList = t131.toList
    · rw [if_pos c11] at H
      have c11b0 : (t129.toList == t131.toList) = true := beq_iff_eq.mpr c11
      have c11b1 : (t129.toList != t131.toList) = false := bne_eq_false_iff_eq.mpr c11
      clear c11
      by_cases c12 : t130 = t132
      · rw [if_pos c12] at H
        have c12b0 : (t130 == t132) = true := beq_iff_eq.mpr c12
        have c12b1 : (t130 != t132) = false := bne_eq_false_iff_eq.mpr c12
        clear c12
        by_cases c13 : t143 = true
        · subst c13
          have H1 : (if t134.toList = t139.toList then (some (t135 == t140)) else (none)) = some r := by rw [if_pos rfl] at H; exact H
          clear H
          have H := H1
          clear H1
          by_cases c14 : t134.toList = t139.toList
          · rw [if_pos c14] at H
            have c14b0 : (t134.toList == t139.toList) = true := beq_iff_eq.mpr c14
            have c14b1 : (t134.toList != t139.toList) = false := bne_eq_false_iff_eq.mpr c14
            clear c14
            obtain rfl := Option.some.inj H
            go_enter Try.func10, Try.ntmps10
            go_wp2_with (first | ((with_reducible refine gate_callee (f := 11) rfl ?_); refine goesL_ (some 19) rfl rfl Try.func11 (by kernel_rfl) rfl #[] rfl (by (try simp only [List.map_toArray, List.map_cons, List.map_nil]); first | done | rfl | (simp only [List.length_drop, List.length_take]; rfl)) ?_; (with_reducible refine (ferrulelaw01_shown.calls k  true _ A4.out).mono ?_); rintro e w15 ⟨rfl, hb⟩; refine ⟨_, rfl, ?_⟩; have n0_ := Aside0.mk (below_step (by repeat (first | (with_reducible first | exact HB.out | apply below_alloc | apply pw_below_drewN | apply below_drew1) | exact HB.out)) hb); clear HB; have HB := n0_; clear n0_; (try clear hb); (try clear hb2); (try clear hk); (try clear hi)) | ((with_reducible refine gate_callee (f := 22) rfl ?_); refine goesL_ (some 22) rfl rfl Try.func22 (by kernel_rfl) rfl #[.slice A0 l0.length c0] rfl (by (try simp only [List.map_toArray, List.map_cons, List.map_nil]); first | done | rfl | (simp only [List.length_drop, List.length_take]; rfl)) ?_; (with_reducible refine (pack_Nums.calls _ _ l0 t129 t130 _ ?side1 ?side2 A5.out).mono ?_); (case side1 => repeat (first | exact (Kd.C_below HR0.out HB.out) | (with_reducible refine Kd.C_alloc ?_ _) | (with_reducible refine Kd.C_drewN ?_ _) | (with_reducible refine Kd.C_drew ?_))); (case side2 => exact HC0.out); rintro e w16 ⟨rfl, hb⟩; refine ⟨_, rfl, ?_⟩; have n0_ := Aside0.mk (below_step (by repeat (first | (with_reducible first | exact HB.out | apply below_alloc | apply pw_below_drewN | apply below_drew1) | exact HB.out)) hb); clear HB; have HB := n0_; clear n0_; (try clear hb); (try clear hb2); (try clear hk); (try clear hi)) | ((with_reducible refine gate_callee (f := 23) rfl ?_); refine goesL_ (some 27) rfl rfl Try.func23 (by kernel_rfl) rfl #[.slice A0 l0.length c0] rfl (by (try simp only [List.map_toArray, List.map_cons, List.map_nil]); first | done | rfl | (simp only [List.length_drop, List.length_take]; rfl)) ?_; (with_reducible refine (ref_Nums.calls k _ _ l0 t131 t132 _ ?side1 ?side2 A6.out).mono ?_); (case side1 => repeat (first | exact (Kd.C_below HR0.out HB.out) | (with_reducible refine Kd.C_alloc ?_ _) | (with_reducible refine Kd.C_drewN ?_ _) | (with_reducible refine Kd.C_drew ?_))); (case side2 => exact HC0.out); rintro e w17 ⟨rfl, hb⟩; refine ⟨_, rfl, ?_⟩; have n0_ := Aside0.mk (below_step (by repeat (first | (with_reducible first | exact HB.out | apply below_alloc | apply pw_below_drewN | apply below_drew1) | exact HB.out)) hb); clear HB; have HB := n0_; clear n0_; (try clear hb); (try clear hb2); (try clear hk); (try clear hi)) | ((with_reducible refine gate_callee (f := 24) rfl ?_); refine goesL_ (some 33) rfl rfl Try.func24 (by kernel_rfl) rfl #[.string a1, .int .i64 a2] rfl (by (try simp only [List.map_toArray, List.map_cons, List.map_nil]); first | done | rfl | (simp only [List.length_drop, List.length_take]; rfl)) ?_; (with_reducible refine (pack_TakeNums.calls k a1 a2 t133 t134 t135 _ A7.out).mono ?_); rintro e w18 ⟨v136, rfl, ho0, hb⟩; refine ⟨_, rfl, ?_⟩; have n0_ := Aside0.mk (Kd.R_lower ho0 (below_size (by repeat (first | (with_reducible first | exact HB.out | apply below_alloc | apply pw_below_drewN | apply below_drew1) | exact HB.out)))); have n1_ := Aside0.mk (below_step (by repeat (first | (with_reducible first | exact HB.out | apply below_alloc | apply pw_below_drewN | apply below_drew1) | exact HB.out)) hb); clear HB; have HO137 := n0_; have HB := n1_; clear n0_ n1_; (try clear hb); (try clear hb2); (try clear hk); (try clear hi); (try clear ho0)) | ((with_reducible refine gate_callee (f := 25) rfl ?_); refine goesL_ (some 40) rfl rfl Try.func25 (by kernel_rfl) rfl #[.string a1, .int .i64 a2] rfl (by (try simp only [List.map_toArray, List.map_cons, List.map_nil]); first | done | rfl | (simp only [List.length_drop, List.length_take]; rfl)) ?_; (with_reducible refine (ferruleref01_TakeNums.calls k a1 a2 t138 t139 t140 _ A8.out).mono ?_); rintro e w19 ⟨v141, rfl, ho0, hb⟩; refine ⟨_, rfl, ?_⟩; have n0_ := Aside0.mk (Kd.R_elder' (by (with_reducible repeat (first | apply Kd.R_alloc | apply Kd.R_drewN | apply Kd.R_drew)); exact HO137.out) (Kd.R_base ho0) hb); have n1_ := Aside0.mk (Kd.R_lower (Kd.R_new' ho0 (Kd.R_lt (by (with_reducible repeat (first | apply Kd.R_alloc | apply Kd.R_drewN | apply Kd.R_drew)); exact HO137.out))) (below_size (by repeat (first | (with_reducible first | exact HB.out | apply below_alloc | apply pw_below_drewN | apply below_drew1) | exact HB.out)))); have n2_ := Aside0.mk (below_step (by repeat (first | (with_reducible first | exact HB.out | apply below_alloc | apply pw_below_drewN | apply below_drew1) | exact HB.out)) hb); clear HO137; clear HB; have HO137 := n0_; have HO142 := n1_; have HB := n2_; clear n0_ n1_ n2_; (try clear hb); (try clear hb2); (try clear hk); (try clear hi); (try clear ho0); obtain ⟨Ao20, co20, eo20⟩ := Kd.R_slice HO137.out; subst eo20; obtain ⟨Ao21, co21, eo21⟩ := Kd.R_slice HO142.out; subst eo21) | ((with_reducible refine gate_callee (f := 26) rfl ?_); refine goesL_ (some 46) rfl rfl Try.func26 (by kernel_rfl) rfl #[.slice Ao20 t133.length co20, .slice Ao21 t138.length co21] rfl (by (try simp only [List.map_toArray, List.map_cons, List.map_nil]); first | done | rfl | (simp only [List.length_drop, List.length_take]; rfl)) ?_; (with_reducible refine (ferruleref01_Same.calls k _ _ t133 _ _ t138 true _ ?side1 ?side2 ?side3 ?side4 A9.out).mono ?_); (case side1 => repeat (first | exact (Kd.R_reads' HO137.out).2.2 | (with_reducible refine Kd.C_alloc ?_ _) | (with_reducible refine Kd.C_drewN ?_ _) | (with_reducible refine Kd.C_drew ?_))); (case side2 => exact (Kd.R_reads' HO137.out).2.1); (case side3 => repeat (first | exact (Kd.R_reads' HO142.out).2.2 | (with_reducible refine Kd.C_alloc ?_ _) | (with_reducible refine Kd.C_drewN ?_ _) | (with_reducible refine Kd.C_drew ?_))); (case side4 => exact (Kd.R_reads' HO142.out).2.1); rintro e w' ⟨rfl, ⟨nd, rfl⟩⟩; refine ⟨_, rfl, ?_⟩))
            go_ret
            exact ⟨by first | rfl | (simp [errW_none, errW_some] <;> rfl) | (simp [*, errW_none, errW_some] <;> rfl), by repeat (first | (with_reducible first | exact HB.out | apply below_alloc | apply pw_below_drewN | apply below_drew1) | exact HB.out)⟩
          · rw [if_neg c14] at H
            exact absurd H (by simp)
        · replace c13 := Bool.eq_false_iff.mpr c13
          subst c13
          have H1 : (none) = some r := by rw [if_neg (show ¬ (false = true) by decide)] at H; exact H
          clear H
          have H := H1
          clear H1
          exact absurd H (by simp)
      · rw [if_neg c12] at H
        exact absurd H (by simp)
    · rw [if_neg c11] at H
      exact absurd H (by simp)
  · replace c10 := Bool.eq_false_iff.mpr c10
    subst c10
    have H1 : (none) = some r := by rw [if_neg (show ¬ (false = true) by decide)] at H; exact H
    clear H
    have H := H1
    clear H1
    exact absurd H (by simp)

end Go.Proofs.Ytajphdkolpkloaa.Pr
