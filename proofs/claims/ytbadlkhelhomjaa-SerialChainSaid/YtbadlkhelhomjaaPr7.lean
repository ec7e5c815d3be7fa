/- What the program's functions compute, and that they compute it: printed out of the translation by a program of this session's (px.py, over the kit's printer). Conditions: none. -/
import Derived.Test.YtbadlkhelhomjaaPr0
import Derived.Test.YtbadlkhelhomjaaHandOrder
import Derived.Test.YtbadlkhelhomjaaHandShown
namespace Go.Proofs.Ytbadlkhelhomjaa.Pr
open Go.RowKit Go.Proofs.YtbadlkhelhomjaaW.PrintWords Go.Proofs.YtbadlkhelhomjaaW.PrintLast Go.Proofs.YtbadlkhelhomjaaW.PrintMore
attribute [local go_sem] max2_int min2_int max_two min_two max_three min_three max_four min_four   -- for this text's walks alone
set_option linter.unusedVariables false
set_option linter.unusedSimpArgs false

/-! ### ferrulelaw21_SerialChain: function 6 -/
mutual
def ferrulelaw21_SerialChain.j0 : Nat → Int → Int → ByteArray → Bool → Bool → Option (Bool)
  | 0, _, _, _, _, _ => none
  | k + 1, x0, x1, x2, x7, x24 => if x24 = true then (some x7) else (ferrulelaw21_SerialChain.l0 k x0 x1 x2 x7 ([] : List (S27)) 0)
def ferrulelaw21_SerialChain.l0 : Nat → Int → Int → ByteArray → Bool → List (S27) → Int → Option (Bool)
  | 0, _, _, _, _, _, _ => none
  | k + 1, x0, x1, x2, x7, x8, x9 => if x9 < x0 then (if x0 = 0 then (none) else (if x8.length < 1759218604441 then (ferrulelaw21_SerialChain.l0 k x0 x1 x2 x7 (x8 ++ [(⟨(⟨0, 0⟩ : S24), 0, 0, (([(⟨1, x2, IntKind.u64.wrap (Int.tmod (wrap64 (x9 + (Int.tmod x1 x0))) x0)⟩ : S40)] : List (S40))), (([(⟨1, x2, IntKind.u64.wrap ((IntKind.u64.wrap (Int.tmod (wrap64 (x9 + (Int.tmod x1 x0))) x0)) + 1)⟩ : S40)] : List (S40)))⟩ : S27)]) (wrap64 (x9 + 1))) else (none))) else ((serial_Order.f x8).bind fun bt169 => (if bt169.2 = 0 then (ferrulelaw21_SerialChain.j2 k x0 x7 x8 bt169.1 ((bt169.1.length : Int) != x0)) else (ferrulelaw21_SerialChain.j2 k x0 x7 x8 bt169.1 true)))
def ferrulelaw21_SerialChain.j2 : Nat → Int → Bool → List (S27) → List Int → Bool → Option (Bool)
  | 0, _, _, _, _, _ => none
  | k + 1, x0, x7, x8, x11, x64 => if x64 = true then (some false) else (ferrulelaw21_SerialChain.l1 k x0 x7 x8 x11 0)
def ferrulelaw21_SerialChain.l1 : Nat → Int → Bool → List (S27) → List Int → Int → Option (Bool)
  | 0, _, _, _, _, _ => none
  | k + 1, x0, x7, x8, x11, x13 => if x13 < x0 then (if 0 ≤ x13 then (if x13 < (x11.length : Int) then (if (rd x11 x13) < 0 then (some false) else (if (rd x11 x13) ≥ x0 then (some false) else (if 0 ≤ (rd x11 x13) then (if (rd x11 x13) < (x8.length : Int) then (if 0 < (((rd_T27 x8 (rd x11 x13)).f3).length : Int) then (if ((rd_T40 ((rd_T27 x8 (rd x11 x13)).f3) 0).f2) = (IntKind.u64.wrap (x13)) then (ferrulelaw21_SerialChain.l1 k x0 x7 x8 x11 (wrap64 (x13 + 1))) else (some false)) else (none)) else (none)) else (none)))) else (none)) else (none)) else (some x7)
end
def ferrulelaw21_SerialChain.f (k : Nat) (a0 : Int) (a1 : Int) (a2 : ByteArray) : Option (Bool) := (ferrulelaw21_shown.f).bind fun t159 => (if a0 < 1 then (ferrulelaw21_SerialChain.j0 k a0 a1 a2 t159 true) else (if a0 > 40 then (ferrulelaw21_SerialChain.j0 k a0 a1 a2 t159 true) else (ferrulelaw21_SerialChain.j0 k a0 a1 a2 t159 (decide (a1 < 0)))))
theorem ferrulelaw21_SerialChain.mono_l : ∀ k, (∀ y0 y1 y2 y3 y4, LeO (ferrulelaw21_SerialChain.j0 k y0 y1 y2 y3 y4) (ferrulelaw21_SerialChain.j0 (k + 1) y0 y1 y2 y3 y4)) ∧ (∀ y0 y1 y2 y3 y4 y5, LeO (ferrulelaw21_SerialChain.l0 k y0 y1 y2 y3 y4 y5) (ferrulelaw21_SerialChain.l0 (k + 1) y0 y1 y2 y3 y4 y5)) ∧ (∀ y0 y1 y2 y3 y4, LeO (ferrulelaw21_SerialChain.j2 k y0 y1 y2 y3 y4) (ferrulelaw21_SerialChain.j2 (k + 1) y0 y1 y2 y3 y4)) ∧ (∀ y0 y1 y2 y3 y4, LeO (ferrulelaw21_SerialChain.l1 k y0 y1 y2 y3 y4) (ferrulelaw21_SerialChain.l1 (k + 1) y0 y1 y2 y3 y4))
  | 0 => ⟨fun _ _ _ _ _ r h => by simp [ferrulelaw21_SerialChain.j0] at h, fun _ _ _ _ _ _ r h => by simp [ferrulelaw21_SerialChain.l0] at h, fun _ _ _ _ _ r h => by simp [ferrulelaw21_SerialChain.j2] at h, fun _ _ _ _ _ r h => by simp [ferrulelaw21_SerialChain.l1] at h⟩
  | k + 1 => by
    obtain ⟨ih0, ih1, ih2, ih3⟩ := ferrulelaw21_SerialChain.mono_l k
    refine ⟨?_, ?_, ?_, ?_⟩
    · intro y0 y1 y2 y3 y4
      unfold ferrulelaw21_SerialChain.j0
      repeat' first
      | (with_reducible exact ih0 _ _ _ _ _)
      | (with_reducible exact ih1 _ _ _ _ _ _)
      | (with_reducible exact ih2 _ _ _ _ _)
      | (with_reducible exact ih3 _ _ _ _ _)
      | (with_reducible exact LeO.refl _)
      | (with_reducible exact LeO.none _)
      | (with_reducible refine LeO.ite ?_ ?_)
      | (with_reducible refine LeO.bind ?_ (fun _ => ?_))
      | exact ih0 _ _ _ _ _
      | exact ih1 _ _ _ _ _ _
      | exact ih2 _ _ _ _ _
      | exact ih3 _ _ _ _ _
      | exact LeO.none _
      | refine LeO.ite ?_ ?_
      | refine LeO.bind ?_ (fun _ => ?_)
    · intro y0 y1 y2 y3 y4 y5
      unfold ferrulelaw21_SerialChain.l0
      repeat' first
      | (with_reducible exact ih0 _ _ _ _ _)
      | (with_reducible exact ih1 _ _ _ _ _ _)
      | (with_reducible exact ih2 _ _ _ _ _)
      | (with_reducible exact ih3 _ _ _ _ _)
      | (with_reducible exact LeO.refl _)
      | (with_reducible exact LeO.none _)
      | (with_reducible refine LeO.ite ?_ ?_)
      | (with_reducible refine LeO.bind ?_ (fun _ => ?_))
      | exact ih0 _ _ _ _ _
      | exact ih1 _ _ _ _ _ _
      | exact ih2 _ _ _ _ _
      | exact ih3 _ _ _ _ _
      | exact LeO.none _
      | refine LeO.ite ?_ ?_
      | refine LeO.bind ?_ (fun _ => ?_)
    · intro y0 y1 y2 y3 y4
      unfold ferrulelaw21_SerialChain.j2
      repeat' first
      | (with_reducible exact ih0 _ _ _ _ _)
      | (with_reducible exact ih1 _ _ _ _ _ _)
      | (with_reducible exact ih2 _ _ _ _ _)
      | (with_reducible exact ih3 _ _ _ _ _)
      | (with_reducible exact LeO.refl _)
      | (with_reducible exact LeO.none _)
      | (with_reducible refine LeO.ite ?_ ?_)
      | (with_reducible refine LeO.bind ?_ (fun _ => ?_))
      | exact ih0 _ _ _ _ _
      | exact ih1 _ _ _ _ _ _
      | exact ih2 _ _ _ _ _
      | exact ih3 _ _ _ _ _
      | exact LeO.none _
      | refine LeO.ite ?_ ?_
      | refine LeO.bind ?_ (fun _ => ?_)
    · intro y0 y1 y2 y3 y4
      unfold ferrulelaw21_SerialChain.l1
      repeat' first
      | (with_reducible exact ih0 _ _ _ _ _)
      | (with_reducible exact ih1 _ _ _ _ _ _)
      | (with_reducible exact ih2 _ _ _ _ _)
      | (with_reducible exact ih3 _ _ _ _ _)
      | (with_reducible exact LeO.refl _)
      | (with_reducible exact LeO.none _)
      | (with_reducible refine LeO.ite ?_ ?_)
      | (with_reducible refine LeO.bind ?_ (fun _ => ?_))
      | exact ih0 _ _ _ _ _
      | exact ih1 _ _ _ _ _ _
      | exact ih2 _ _ _ _ _
      | exact ih3 _ _ _ _ _
      | exact LeO.none _
      | refine LeO.ite ?_ ?_
      | refine LeO.bind ?_ (fun _ => ?_)
theorem ferrulelaw21_SerialChain.mono : ∀ a0 a1 a2 k, LeO (ferrulelaw21_SerialChain.f k a0 a1 a2) (ferrulelaw21_SerialChain.f (k + 1) a0 a1 a2) := by
  intro a0 a1 a2 k
  obtain ⟨ih0, ih1, ih2, ih3⟩ := ferrulelaw21_SerialChain.mono_l k
  unfold ferrulelaw21_SerialChain.f
  repeat' first
      | (with_reducible exact ih0 _ _ _ _ _)
      | (with_reducible exact ih1 _ _ _ _ _ _)
      | (with_reducible exact ih2 _ _ _ _ _)
      | (with_reducible exact ih3 _ _ _ _ _)
      | (with_reducible exact LeO.refl _)
      | (with_reducible exact LeO.none _)
      | (with_reducible refine LeO.ite ?_ ?_)
      | (with_reducible refine LeO.bind ?_ (fun _ => ?_))
      | exact ih0 _ _ _ _ _
      | exact ih1 _ _ _ _ _ _
      | exact ih2 _ _ _ _ _
      | exact ih3 _ _ _ _ _
      | exact LeO.none _
      | refine LeO.ite ?_ ?_
      | refine LeO.bind ?_ (fun _ => ?_)
set_option maxHeartbeats 8000000 in
set_option maxRecDepth 100000 in
theorem ferrulelaw21_SerialChain.calls (k : Nat) (a0 : Int) (a1 : Int) (a2 : ByteArray) (r : Bool) (w : World) (h : ferrulelaw21_SerialChain.f k a0 a1 a2 = some r) :
    Calls Try.prog 6 #[.int .i64 a0, .int .i64 a1, .string a2] w fun e w' => e = .returned (.bool r) ∧ Below w.heap.size w w' := by
  have hu40 := Try.underlying40
  have hu27 := Try.underlying27
  have HB := Aside0.mk (Below.refl w.heap.size w)
  have H : ((ferrulelaw21_shown.f).bind fun t159 => (if a0 < 1 then (ferrulelaw21_SerialChain.j0 k a0 a1 a2 t159 true) else (if a0 > 40 then (ferrulelaw21_SerialChain.j0 k a0 a1 a2 t159 true) else (ferrulelaw21_SerialChain.j0 k a0 a1 a2 t159 (decide (a1 < 0)))))) = some r := h
  clear h
  replace H := Option.bind_eq_some_iff.mp H
  obtain ⟨t159, A40, H⟩ := H
  replace H : (if a0 < 1 then (ferrulelaw21_SerialChain.j0 k a0 a1 a2 t159 true) else (if a0 > 40 then (ferrulelaw21_SerialChain.j0 k a0 a1 a2 t159 true) else (ferrulelaw21_SerialChain.j0 k a0 a1 a2 t159 (decide (a1 < 0))))) = some r := H
  have A4 := Aside0.mk A40
  clear A40
  have HC5 := Aside0.mk H
  clear H
  go_enter Try.func6, Try.ntmps6
  go_upto_region 2 with (first | ((with_reducible refine gate_callee (f := 9) rfl ?_); refine goesL_ (some 14) rfl rfl Try.func9 (by kernel_rfl) rfl #[] rfl (by (try simp only [List.map_toArray, List.map_cons, List.map_nil]); first | done | rfl | (simp only [List.length_drop, List.length_take]; rfl)) ?_; (with_reducible refine (ferrulelaw21_shown.calls  t159 _ A4.out).mono ?_); rintro e w6 ⟨rfl, hb⟩; refine ⟨_, rfl, ?_⟩; have n0_ := Aside0.mk (below_step (by repeat (first | (with_reducible first | exact HB.out | apply below_alloc | apply pw_below_drewN | apply below_drew1) | exact HB.out)) hb); clear HB; have HB := n0_; clear n0_; (try clear hb); (try clear hb2); (try clear hk); (try clear hi)))
  (try simp only [Act.put, List.setIfInBounds_toArray, List.set_cons_zero, List.set_cons_succ])
  go_cut [24] (fun v24 wc => ∃ (kq : Nat) (x24_4 : Bool), v24 = .bool x24_4 ∧ Aside0 (ferrulelaw21_SerialChain.j0 kq a0 a1 a2 t159 x24_4 = some r) ∧ Aside0 (kq ≤ k) ∧ Aside0 (Below w.heap.size w wc))
  case first =>
    have H := HC5.out
    clear HC5
    by_cases c7 : a0 < 1
    · rw [if_pos c7] at H
      have c7b0 : decide (a0 < 1) = true := decide_eq_true c7
      clear c7
      (first | rw [c7b0] | (simp only [i64_w, i32_w]; rw [c7b0]) | skip)
      have H' := Aside0.mk H
      clear H
      go_wp2
      go_meet
      case rel => exact ⟨_, (true), (by first | rfl | (simp; done) | (simp [*]; done)), H', ⟨by first | omega | exact Nat.le_refl _⟩, ⟨by repeat (first | (with_reducible first | exact HB.out | apply below_alloc | apply pw_below_drewN | apply below_drew1) | exact HB.out)⟩⟩
    · rw [if_neg c7] at H
      have c7b0 : decide (a0 < 1) = false := decide_eq_false c7
      clear c7
      (first | rw [c7b0] | (simp only [i64_w, i32_w]; rw [c7b0]) | skip)
      by_cases c8 : a0 > 40
      · rw [if_pos c8] at H
        have c8b0 : decide (40 < a0) = true := decide_eq_true c8
        clear c8
        have H' := Aside0.mk H
        clear H
        go_wp2
        go_meet
        case rel => exact ⟨_, (true), (by first | rfl | (simp; done) | (simp [*]; done)), H', ⟨by first | omega | exact Nat.le_refl _⟩, ⟨by repeat (first | (with_reducible first | exact HB.out | apply below_alloc | apply pw_below_drewN | apply below_drew1) | exact HB.out)⟩⟩
      · rw [if_neg c8] at H
        have c8b0 : decide (40 < a0) = false := decide_eq_false c8
        clear c8
        have H' := Aside0.mk H
        clear H
        go_wp2
        go_meet
        case rel => exact ⟨_, (decide (a1 < 0)), (by first | rfl | (simp; done) | (simp [*]; done)), H', ⟨by first | omega | exact Nat.le_refl _⟩, ⟨by repeat (first | (with_reducible first | exact HB.out | apply below_alloc | apply pw_below_drewN | apply below_drew1) | exact HB.out)⟩⟩
  case rest =>
    clear HC5
    try clear p2
    try clear c6
    try clear c7
    try clear c7b0
    try clear c8
    try clear c8b0
    obtain ⟨kq, x24_4, rfl, HA, HJ4, HB⟩ := hcut
    cases kq with
    | zero => exact absurd HA.out (by simp [ferrulelaw21_SerialChain.j0])
    | succ kj4 =>
      have H := HA.out
      clear HA
      simp only [ferrulelaw21_SerialChain.j0] at H
      by_cases c9 : x24_4 = true
      · subst c9
        have H1 : (some t159) = some r := by rw [if_pos rfl] at H; exact H
        clear H
        have H := H1
        clear H1
        obtain rfl := Option.some.inj H
        go_wp2
        go_ret
        exact ⟨by first | rfl | (simp [errW_none, errW_some] <;> rfl) | (simp [*, errW_none, errW_some] <;> rfl), by repeat (first | (with_reducible first | exact HB.out | apply below_alloc | apply pw_below_drewN | apply below_drew1) | exact HB.out)⟩
      · replace c9 := Bool.eq_false_iff.mpr c9
        subst c9
        have H1 : (ferrulelaw21_SerialChain.l0 kj4 a0 a1 a2 t159 ([] : List (S27)) 0) = some r := by rw [if_neg (show ¬ (false = true) by decide)] at H; exact H
        clear H
        have H := H1
        clear H1
        have H' := Aside0.mk H
        clear H
        go_wp2
        go_loopg [8, 9] kj4 (fun kq v8 v9 w' => ∃ (x8_2 : List (S27)) (x9_2 : Int), v9 = .int .i64 x9_2 ∧ Aside0 (ferrulelaw21_SerialChain.l0 kq a0 a1 a2 t159 x8_2 x9_2 = some r) ∧ Aside0 (kq ≤ kj4) ∧ Aside0 (Kd.S k27 27 w' w.heap.size (fun _ => True) v8 x8_2) ∧ Aside0 (Below w.heap.size w w'))
        case atStart => exact ⟨(([] : List (S27))), (0), (by first | rfl | (simp; done) | (simp [*]; done)), H', ⟨Nat.le_refl _⟩, ⟨by first | exact Kd.S_nil _ _ _ _ _ | exact Kd.N_nil _ _ _ _ _ | exact Kd.V_nil _ _ _ _ _ | exact Kd.Q_nil _ _ _ _ _ | exact Kd.R_nil _ _ _ _ _⟩, ⟨by repeat (first | (with_reducible first | exact HB.out | apply below_alloc | apply pw_below_drewN | apply below_drew1) | exact HB.out)⟩⟩
        case round =>
          clear H'
          try clear p2
          try clear c6
          try clear c7
          try clear c7b0
          try clear c8
          try clear c8b0
          try clear c9
          try clear p2
          obtain ⟨x8_2, x9_2, rfl, HA, HK2, HO_8, HB⟩ := hrel
          cases gk with
          | zero => exact absurd HA.out (by simp [ferrulelaw21_SerialChain.l0])
          | succ k2 =>
            have H := HA.out
            clear HA
            simp only [ferrulelaw21_SerialChain.l0] at H
            by_cases c10 : x9_2 < a0
            · rw [if_pos c10] at H
              have c10b0 : decide (x9_2 < a0) = true := decide_eq_true c10
              clear c10
              by_cases c11 : a0 = 0
              · rw [if_pos c11] at H
                exact absurd H (by simp)
              · rw [if_neg c11] at H
                have c11b0 : (a0 == 0) = false := beq_eq_false_iff_ne.mpr c11
                have c11b1 : (a0 != 0) = true := bne_iff_ne.mpr c11
                obtain ⟨y160, hy160⟩ : ∃ y_ : List (S40), y_ = (([(⟨1, a2, IntKind.u64.wrap (Int.tmod (wrap64 (x9_2 + (Int.tmod a1 a0))) a0)⟩ : S40)] : List (S40))) := ⟨_, rfl⟩
                replace H : (if x8_2.length < 1759218604441 then (ferrulelaw21_SerialChain.l0 k2 a0 a1 a2 t159 (x8_2 ++ [(⟨(⟨0, 0⟩ : S24), 0, 0, y160, (([(⟨1, a2, IntKind.u64.wrap ((IntKind.u64.wrap (Int.tmod (wrap64 (x9_2 + (Int.tmod a1 a0))) a0)) + 1)⟩ : S40)] : List (S40)))⟩ : S27)]) (wrap64 (x9_2 + 1))) else (none)) = some r := by first | (rw [hy160]; with_reducible exact H) | (have H2_ := (Option.bind_some _ _).symm.trans H; rw [hy160]; with_reducible exact H2_) | (have H2_ := (Option.bind_some _ _).symm.trans H; with_reducible exact H2_) | with_reducible exact H | (rw [hy160]; exact H) | exact H
                have Ny160 := Aside0.mk hy160
                clear hy160
                obtain ⟨y163, hy163⟩ : ∃ y_ : List (S40), y_ = (([(⟨1, a2, IntKind.u64.wrap ((IntKind.u64.wrap (Int.tmod (wrap64 (x9_2 + (Int.tmod a1 a0))) a0)) + 1)⟩ : S40)] : List (S40))) := ⟨_, rfl⟩
                replace H : (if x8_2.length < 1759218604441 then (ferrulelaw21_SerialChain.l0 k2 a0 a1 a2 t159 (x8_2 ++ [(⟨(⟨0, 0⟩ : S24), 0, 0, y160, y163⟩ : S27)]) (wrap64 (x9_2 + 1))) else (none)) = some r := by first | (rw [hy163]; with_reducible exact H) | (have H2_ := (Option.bind_some _ _).symm.trans H; rw [hy163]; with_reducible exact H2_) | (have H2_ := (Option.bind_some _ _).symm.trans H; with_reducible exact H2_) | with_reducible exact H | (rw [hy163]; exact H) | exact H
                have Ny163 := Aside0.mk hy163
                clear hy163
                by_cases c12 : x8_2.length < 1759218604441
                · rw [if_pos c12] at H
                  have LMc12 := Aside0.mk c12
                  clear c12
                  obtain ⟨y166, hy166⟩ : ∃ y_ : List (S27), y_ = (x8_2 ++ [(⟨(⟨0, 0⟩ : S24), 0, 0, y160, y163⟩ : S27)]) := ⟨_, rfl⟩
                  replace H : (ferrulelaw21_SerialChain.l0 k2 a0 a1 a2 t159 y166 (wrap64 (x9_2 + 1))) = some r := by first | (rw [hy166]; with_reducible exact H) | (have H2_ := (Option.bind_some _ _).symm.trans H; rw [hy166]; with_reducible exact H2_) | (have H2_ := (Option.bind_some _ _).symm.trans H; with_reducible exact H2_) | with_reducible exact H | (rw [hy166]; exact H) | exact H
                  have Ny166 := Aside0.mk hy166
                  clear hy166
                  have H' := Aside0.mk H
                  clear H
                  go_wp2_with (first | ((with_reducible refine gate_dst (N := 43) rfl ?_); (try (refine gate_guard (by rfl) ?_; dsimp only)); refine Kd.R_lit k40 _ 40 ?hg (N := 43) ?hd (xs := ([(⟨1, a2, IntKind.u64.wrap (Int.tmod (wrap64 (x9_2 + (Int.tmod a1 a0))) a0)⟩ : S40)] : List (S40))) (inner := [.int .u64 1, .string a2, .int .u64 (IntKind.u64.wrap (Int.tmod (wrap64 (x9_2 + (Int.tmod a1 a0))) a0))]) (ok := fun _ => True) (okp := fun _ => True) ?hr ?hp (fun _ hk => hk) trivial (Below.refl _ _) (Nat.le_refl _) (by simp) ?_; (case hd => rfl); (case hg => rfl); (case hr => first | (go_simp; done) | (go_simp; rfl)); (case hp => exact (Reps.c3 (show Kd.M k40 _ _ _ (⟨1, a2, IntKind.u64.wrap (Int.tmod (wrap64 (x9_2 + (Int.tmod a1 a0))) a0)⟩ : S40) [.int .u64 1, .string a2, .int .u64 (IntKind.u64.wrap (Int.tmod (wrap64 (x9_2 + (Int.tmod a1 a0))) a0))] from (k40_mkM _ _ _ (⟨1, a2, IntKind.u64.wrap (Int.tmod (wrap64 (x9_2 + (Int.tmod a1 a0))) a0)⟩ : S40) )) (Reps.none _ _))); intro v161 w13 ho14 hb hg_ hnew_; clear hg_ hnew_; (first | rw [← Ny160.out] at ho14 | (simp only [Int.reduceToNat] at ho14; rw [← Ny160.out] at ho14)); have n0_ := Aside0.mk (Kd.S_elder' (by (with_reducible repeat (first | apply Kd.S_alloc | apply Kd.S_drewN | apply Kd.S_drew)); exact HO_8.out) (Kd.R_base ho14) hb); have n1_ := Aside0.mk (Kd.R_lower ho14 (below_size (by repeat (first | (with_reducible first | exact HB.out | apply below_alloc | apply pw_below_drewN | apply below_drew1) | exact HB.out)))); have n2_ := Aside0.mk (below_step (by repeat (first | (with_reducible first | exact HB.out | apply below_alloc | apply pw_below_drewN | apply below_drew1) | exact HB.out)) hb); clear HO_8; clear HB; have HO_8 := n0_; have HO162 := n1_; have HB := n2_; clear n0_ n1_ n2_; clear hb ho14) | ((with_reducible refine gate_dst (N := 48) rfl ?_); (try (refine gate_guard (by rfl) ?_; dsimp only)); refine Kd.R_lit k40 _ 40 ?hg (N := 48) ?hd (xs := ([(⟨1, a2, IntKind.u64.wrap ((IntKind.u64.wrap (Int.tmod (wrap64 (x9_2 + (Int.tmod a1 a0))) a0)) + 1)⟩ : S40)] : List (S40))) (inner := [.int .u64 1, .string a2, .int .u64 (IntKind.u64.wrap ((IntKind.u64.wrap (Int.tmod (wrap64 (x9_2 + (Int.tmod a1 a0))) a0)) + 1))]) (ok := fun _ => True) (okp := fun _ => True) ?hr ?hp (fun _ hk => hk) trivial (Below.refl _ _) (Nat.le_refl _) (by simp) ?_; (case hd => rfl); (case hg => rfl); (case hr => first | (go_simp; done) | (go_simp; rfl)); (case hp => exact (Reps.c3 (show Kd.M k40 _ _ _ (⟨1, a2, IntKind.u64.wrap ((IntKind.u64.wrap (Int.tmod (wrap64 (x9_2 + (Int.tmod a1 a0))) a0)) + 1)⟩ : S40) [.int .u64 1, .string a2, .int .u64 (IntKind.u64.wrap ((IntKind.u64.wrap (Int.tmod (wrap64 (x9_2 + (Int.tmod a1 a0))) a0)) + 1))] from (k40_mkM _ _ _ (⟨1, a2, IntKind.u64.wrap ((IntKind.u64.wrap (Int.tmod (wrap64 (x9_2 + (Int.tmod a1 a0))) a0)) + 1)⟩ : S40) )) (Reps.none _ _))); intro v164 w15 ho16 hb hg_ hnew_; clear hg_ hnew_; (first | rw [← Ny163.out] at ho16 | (simp only [Int.reduceToNat] at ho16; rw [← Ny163.out] at ho16)); have n0_ := Aside0.mk (Kd.S_elder' (by (with_reducible repeat (first | apply Kd.S_alloc | apply Kd.S_drewN | apply Kd.S_drew)); exact HO_8.out) (Kd.R_base ho16) hb); have n1_ := Aside0.mk (Kd.R_elder' (by (with_reducible repeat (first | apply Kd.R_alloc | apply Kd.R_drewN | apply Kd.R_drew)); exact HO162.out) (Kd.R_base ho16) hb); have n2_ := Aside0.mk (Kd.R_lower (Kd.R_new' ho16 (Kd.R_lt (by (with_reducible repeat (first | apply Kd.R_alloc | apply Kd.R_drewN | apply Kd.R_drew)); exact HO162.out))) (below_size (by repeat (first | (with_reducible first | exact HB.out | apply below_alloc | apply pw_below_drewN | apply below_drew1) | exact HB.out)))); have n3_ := Aside0.mk (below_step (by repeat (first | (with_reducible first | exact HB.out | apply below_alloc | apply pw_below_drewN | apply below_drew1) | exact HB.out)) hb); clear HO_8; clear HO162; clear HB; have HO_8 := n0_; have HO162 := n1_; have HO165 := n2_; have HB := n3_; clear n0_ n1_ n2_ n3_; clear hb ho16; obtain ⟨Ao17, co17, eo17⟩ := Kd.R_slice HO165.out; subst eo17; obtain ⟨Ao18, co18, eo18⟩ := Kd.R_slice HO162.out; subst eo18) | ((with_reducible refine gate_builtin (b := .append) (xs := #[.tmp 39, .tmp 50]) rfl ?_); (try (refine gate_guard (by rfl) ?_; dsimp only)); at_builtin; refine Kd.S_append k27 (w0 := w) w.heap.size rfl (.tmp 39) (.tmp 50) 30 27 (.agg #[(.int .u64 0), (.int .u64 0), (.int .u64 0), (.int .u64 0), (.slice none 0 0), (.slice none 0 0)]) 80 rfl Try.underlying30 info27 rfl (by decide) (by omega) u8 x8_2 (⟨(⟨0, 0⟩ : S24), 0, 0, y160, y163⟩ : S27) [.int .u64 0, .int .u64 0, .int .u64 0, .int .u64 0, .slice Ao18 y160.length co18, .slice Ao17 y163.length co17] (fun _ => True) (fun k_ => some k_ = (.slice Ao18 y160.length co18 : Value).ownBlock ∨ some k_ = (.slice Ao17 y163.length co17 : Value).ownBlock) rfl rfl ?aP (fun k_ hk_ => hk_.elim (fun h_ => ((Kd.R_mono (ok' := fun k_ => ((fun _ => True)) k_ ∧ some k_ ≠ (u8 : Value).ownBlock) (Kd.R_apart' (HO162.out) (Kd.S_typed HO_8.out) (by decide)) (fun k_ hk => ⟨trivial, hk.2⟩))).1 k_ h_.symm) (fun h_ => ((Kd.R_mono (ok' := fun k_ => ((fun _ => True)) k_ ∧ some k_ ≠ (u8 : Value).ownBlock) (Kd.R_apart' (HO165.out) (Kd.S_typed HO_8.out) (by decide)) (fun k_ hk => ⟨trivial, hk.2⟩))).1 k_ h_.symm)) ?aF ?aO ?aB ?aS ?aL ?_; (case aP => exact k27_mkM _ _ _ (⟨(⟨0, 0⟩ : S24), 0, 0, y160, y163⟩ : S27) (Kd.R_mono (Kd.R_tight rfl (Kd.R_mono (ok' := fun k_ => ((fun _ => True)) k_ ∧ some k_ ≠ (u8 : Value).ownBlock) (Kd.R_apart' (HO162.out) (Kd.S_typed HO_8.out) (by decide)) (fun k_ hk => ⟨trivial, hk.2⟩))) (fun _ h_ => Or.inl h_)) (Kd.R_mono (Kd.R_tight rfl (Kd.R_mono (ok' := fun k_ => ((fun _ => True)) k_ ∧ some k_ ≠ (u8 : Value).ownBlock) (Kd.R_apart' (HO165.out) (Kd.S_typed HO_8.out) (by decide)) (fun k_ hk => ⟨trivial, hk.2⟩))) (fun _ h_ => Or.inr (h_)))); (case aB => exact (by repeat (first | (with_reducible first | exact HB.out | apply below_alloc | apply pw_below_drewN | apply below_drew1) | exact HB.out))); (case aF => exact (fun _ _ => trivial)); (case aO => exact (by (with_reducible repeat (first | apply Kd.S_alloc | apply Kd.S_drewN | apply Kd.S_drew)); exact Kd.S_mono HO_8.out (fun k_ hk => ⟨trivial, fun e_ => e_.elim (fun h_ => hk.1.2 h_) (fun h_ => hk.2 h_)⟩))); (case aS => exact (below_size (by repeat (first | (with_reducible first | exact HB.out | apply below_alloc | apply pw_below_drewN | apply below_drew1) | exact HB.out)))); (case aL => have := LMc12.out; omega); intro v167 w19 ho hb hg hat; rw [← Ny166.out] at ho; have n0_ := Aside0.mk (hb); have n1_ := Aside0.mk (ho); clear HB; clear HO_8; clear HO162; clear HO165; have HB := n0_; have HO168 := n1_; clear n0_ n1_; clear ho hb hg hat))
                  go_roundg k2
                  case measure => have := HJ4.out; have := HK2.out; omega
                  case rel => exact ⟨(y166), (wrap64 (x9_2 + 1)), (by first | rfl | (simp; done) | (simp [*]; done)), H', ⟨by have := HJ4.out; have := HK2.out; omega⟩, ⟨by (with_reducible repeat (first | apply Kd.S_alloc | apply Kd.S_drewN | apply Kd.S_drew)); exact HO168.out⟩, ⟨by repeat (first | (with_reducible first | exact HB.out | apply below_alloc | apply pw_below_drewN | apply below_drew1) | exact HB.out)⟩⟩
                · rw [if_neg c12] at H
                  exact absurd H (by simp)
            · rw [if_neg c10] at H
              have c10b0 : decide (x9_2 < a0) = false := decide_eq_false c10
              clear c10
              replace H := Option.bind_eq_some_iff.mp H
              obtain ⟨⟨t169, t170⟩, A200, H⟩ := H
              replace H : (if t170 = 0 then (ferrulelaw21_SerialChain.j2 k2 a0 t159 x8_2 t169 ((t169.length : Int) != a0)) else (ferrulelaw21_SerialChain.j2 k2 a0 t159 x8_2 t169 true)) = some r := H
              have A20 := Aside0.mk A200
              clear A200
              have HC21 := Aside0.mk H
              clear H
              obtain ⟨Ao22, co22, eo22⟩ := Kd.S_slice HO_8.out
              subst eo22
              go_upto_region 11 with (first | ((with_reducible refine gate_callee (f := 12) rfl ?_); refine goesL_ (some 54) rfl rfl Try.func12 (by kernel_rfl) rfl #[.slice Ao22 x8_2.length co22] rfl (by (try simp only [List.map_toArray, List.map_cons, List.map_nil]); first | done | rfl | (simp only [List.length_drop, List.length_take]; rfl)) ?_; (with_reducible refine (serial_Order.calls _ _ x8_2 t169 t170 _ ?side1 ?side2 A20.out).mono ?_); (case side1 => repeat (first | exact (Kd.S_reads' HO_8.out).2.2 | (with_reducible refine Kd.C_alloc ?_ _) | (with_reducible refine Kd.C_drewN ?_ _) | (with_reducible refine Kd.C_drew ?_))); (case side2 => exact (Kd.S_reads' HO_8.out).2.1); rintro e w23 ⟨v171, rfl, ho0, hb⟩; refine ⟨_, rfl, ?_⟩; have n0_ := Aside0.mk (Kd.S_below (by (with_reducible repeat (first | apply Kd.S_alloc | apply Kd.S_drewN | apply Kd.S_drew)); exact HO_8.out) hb); have n1_ := Aside0.mk (Kd.R_lower ho0 (below_size (by repeat (first | (with_reducible first | exact HB.out | apply below_alloc | apply pw_below_drewN | apply below_drew1) | exact HB.out)))); have n2_ := Aside0.mk (below_step (by repeat (first | (with_reducible first | exact HB.out | apply below_alloc | apply pw_below_drewN | apply below_drew1) | exact HB.out)) hb); clear HO_8; clear HB; have HO_8 := n0_; have HO172 := n1_; have HB := n2_; clear n0_ n1_ n2_; (try clear hb); (try clear hb2); (try clear hk); (try clear hi); (try clear ho0)))
              (try simp only [Act.put, List.setIfInBounds_toArray, List.set_cons_zero, List.set_cons_succ])
              go_cut [64] (fun v64 wc => ∃ (kq : Nat) (x64_20 : Bool), v64 = .bool x64_20 ∧ Aside0 (ferrulelaw21_SerialChain.j2 kq a0 t159 x8_2 t169 x64_20 = some r) ∧ Aside0 (kq ≤ k2) ∧ Aside0 (Kd.S k27 27 wc w.heap.size (fun _ => True) (.slice Ao22 x8_2.length co22) x8_2) ∧ Aside0 (Kd.R (Kd.int .i64) 3 wc w.heap.size (fun _ => True) v171 t169) ∧ Aside0 (Below w.heap.size w wc))
              case first =>
                have H := HC21.out
                clear HC21
                by_cases c24 : t170 = 0
                · rw [if_pos c24] at H
                  have c24b0 : (t170 == 0) = true := beq_iff_eq.mpr c24
                  have c24b1 : (t170 != 0) = false := bne_eq_false_iff_eq.mpr c24
                  clear c24
                  (first | rw [c24b0] | (simp only [i64_w, i32_w]; rw [c24b0]) | skip)
                  have H' := Aside0.mk H
                  clear H
                  obtain ⟨Ao25, co25, eo25⟩ := Kd.R_slice HO172.out
                  subst eo25
                  go_wp2
                  go_meet
                  case rel => exact ⟨_, (((t169.length : Int) != a0)), (by first | rfl | (simp; done) | (simp [*]; done)), H', ⟨by have := HJ4.out; have := HK2.out; first | omega | exact Nat.le_refl _⟩, ⟨by (with_reducible repeat (first | apply Kd.S_alloc | apply Kd.S_drewN | apply Kd.S_drew)); exact HO_8.out⟩, ⟨by (with_reducible repeat (first | apply Kd.R_alloc | apply Kd.R_drewN | apply Kd.R_drew)); exact HO172.out⟩, ⟨by repeat (first | (with_reducible first | exact HB.out | apply below_alloc | apply pw_below_drewN | apply below_drew1) | exact HB.out)⟩⟩
                · rw [if_neg c24] at H
                  have c24b0 : (t170 == 0) = false := beq_eq_false_iff_ne.mpr c24
                  have c24b1 : (t170 != 0) = true := bne_iff_ne.mpr c24
                  (first | rw [c24b0] | (simp only [i64_w, i32_w]; rw [c24b0]) | skip)
                  have H' := Aside0.mk H
                  clear H
                  go_wp2
                  go_meet
                  case rel => exact ⟨_, (true), (by first | rfl | (simp; done) | (simp [*]; done)), H', ⟨by have := HJ4.out; have := HK2.out; first | omega | exact Nat.le_refl _⟩, ⟨by (with_reducible repeat (first | apply Kd.S_alloc | apply Kd.S_drewN | apply Kd.S_drew)); exact HO_8.out⟩, ⟨by (with_reducible repeat (first | apply Kd.R_alloc | apply Kd.R_drewN | apply Kd.R_drew)); exact HO172.out⟩, ⟨by repeat (first | (with_reducible first | exact HB.out | apply below_alloc | apply pw_below_drewN | apply below_drew1) | exact HB.out)⟩⟩
              case rest =>
                clear HC21
                try clear c1
                try clear c2
                try clear p2
                try clear c3
                try clear c6
                try clear p6
                try clear c7
                try clear c7b0
                try clear c8
                try clear c8b0
                try clear c9
                try clear c10
                try clear c10b0
                try clear c11
                try clear c11b0
                try clear c11b1
                try clear c12
                try clear c24
                try clear c24b0
                try clear c24b1
                try clear p2
                obtain ⟨kq, x64_20, rfl, HA, HJ20, HO_8, HO_11, HB⟩ := hcut
                cases kq with
                | zero => exact absurd HA.out (by simp [ferrulelaw21_SerialChain.j2])
                | succ kj20 =>
                  have H := HA.out
                  clear HA
                  simp only [ferrulelaw21_SerialChain.j2] at H
                  by_cases c26 : x64_20 = true
                  · subst c26
                    have H1 : (some false) = some r := by rw [if_pos rfl] at H; exact H
                    clear H
                    have H := H1
                    clear H1
                    obtain rfl := Option.some.inj H
                    go_wp2
                    go_ret
                    exact ⟨by first | rfl | (simp [errW_none, errW_some] <;> rfl) | (simp [*, errW_none, errW_some] <;> rfl), by repeat (first | (with_reducible first | exact HB.out | apply below_alloc | apply pw_below_drewN | apply below_drew1) | exact HB.out)⟩
                  · replace c26 := Bool.eq_false_iff.mpr c26
                    subst c26
                    have H1 : (ferrulelaw21_SerialChain.l1 kj20 a0 t159 x8_2 t169 0) = some r := by rw [if_neg (show ¬ (false = true) by decide)] at H; exact H
                    clear H
                    have H := H1
                    clear H1
                    have H' := Aside0.mk H
                    clear H
                    go_wp2
                    go_loopg [13] kj20 (fun kq v13 w' => ∃ (x13_4 : Int), v13 = .int .i64 x13_4 ∧ Aside0 (ferrulelaw21_SerialChain.l1 kq a0 t159 x8_2 t169 x13_4 = some r) ∧ Aside0 (kq ≤ kj20) ∧ Aside0 (Kd.S k27 27 w' w.heap.size (fun _ => True) (.slice Ao22 x8_2.length co22) x8_2) ∧ Aside0 (Kd.R (Kd.int .i64) 3 w' w.heap.size (fun _ => True) v171 t169) ∧ Aside0 (Below w.heap.size w w'))
                    case atStart => exact ⟨(0), (by first | rfl | (simp; done) | (simp [*]; done)), H', ⟨Nat.le_refl _⟩, ⟨by (with_reducible repeat (first | apply Kd.S_alloc | apply Kd.S_drewN | apply Kd.S_drew)); exact HO_8.out⟩, ⟨by (with_reducible repeat (first | apply Kd.R_alloc | apply Kd.R_drewN | apply Kd.R_drew)); exact HO_11.out⟩, ⟨by repeat (first | (with_reducible first | exact HB.out | apply below_alloc | apply pw_below_drewN | apply below_drew1) | exact HB.out)⟩⟩
                    case round =>
                      clear H'
                      try clear c1
                      try clear c2
                      try clear p2
                      try clear c3
                      try clear c6
                      try clear p6
                      try clear c7
                      try clear c7b0
                      try clear c8
                      try clear c8b0
                      try clear c9
                      try clear c10
                      try clear c10b0
                      try clear c11
                      try clear c11b0
                      try clear c11b1
                      try clear c12
                      try clear c24
                      try clear c24b0
                      try clear c24b1
                      try clear c26
                      try clear p2
                      try clear p6
                      obtain ⟨x13_4, rfl, HA, HK4, HO_8, HO_11, HB⟩ := hrel
                      cases gk with
                      | zero => exact absurd HA.out (by simp [ferrulelaw21_SerialChain.l1])
                      | succ k4 =>
                        have H := HA.out
                        clear HA
                        simp only [ferrulelaw21_SerialChain.l1] at H
                        by_cases c27 : x13_4 < a0
                        · rw [if_pos c27] at H
                          have c27b0 : decide (x13_4 < a0) = true := decide_eq_true c27
                          clear c27
                          by_cases c28 : 0 ≤ x13_4
                          · rw [if_pos c28] at H
                            have c28b0 : decide (0 ≤ x13_4) = true := decide_eq_true c28
                            clear c28
                            by_cases c29 : x13_4 < (t169.length : Int)
                            · rw [if_pos c29] at H
                              have c29b0 : decide (x13_4 < (t169.length : Int)) = true := decide_eq_true c29
                              clear c29
                              by_cases c30 : (rd t169 x13_4) < 0
                              · rw [if_pos c30] at H
                                have c30b0 : decide ((rd t169 x13_4) < 0) = true := decide_eq_true c30
                                clear c30
                                obtain rfl := Option.some.inj H
                                obtain ⟨Ao31, co31, eo31⟩ := Kd.R_slice HO_11.out
                                subst eo31
                                have p173 : 0 ≤ (x13_4 : Int) := of_decide_eq_true (by first | (with_reducible assumption) | assumption)
                                have q173 : x13_4 < (t169.length : Int) := of_decide_eq_true (by first | (with_reducible assumption) | assumption)
                                obtain ⟨ad173, e173, hx173_0⟩ := Kd.at_int (Kd.R_reads' HO_11.out).2.2 x13_4 p173 q173
                                cases e173
                                replace p173 := eq_true p173
                                replace q173 := eq_true q173
                                go_wp2
                                go_ret
                                exact ⟨by first | rfl | (simp [errW_none, errW_some] <;> rfl) | (simp [*, errW_none, errW_some] <;> rfl), by repeat (first | (with_reducible first | exact HB.out | apply below_alloc | apply pw_below_drewN | apply below_drew1) | exact HB.out)⟩
                              · rw [if_neg c30] at H
                                have c30b0 : decide ((rd t169 x13_4) < 0) = false := decide_eq_false c30
                                clear c30
                                by_cases c32 : (rd t169 x13_4) ≥ a0
                                · rw [if_pos c32] at H
                                  have c32b0 : decide (a0 ≤ (rd t169 x13_4)) = true := decide_eq_true c32
                                  clear c32
                                  obtain rfl := Option.some.inj H
                                  obtain ⟨Ao33, co33, eo33⟩ := Kd.R_slice HO_11.out
                                  subst eo33
                                  have p173 : 0 ≤ (x13_4 : Int) := of_decide_eq_true (by first | (with_reducible assumption) | assumption)
                                  have q173 : x13_4 < (t169.length : Int) := of_decide_eq_true (by first | (with_reducible assumption) | assumption)
                                  obtain ⟨ad173, e173, hx173_0⟩ := Kd.at_int (Kd.R_reads' HO_11.out).2.2 x13_4 p173 q173
                                  cases e173
                                  replace p173 := eq_true p173
                                  replace q173 := eq_true q173
                                  have p174 : 0 ≤ (x13_4 : Int) := of_decide_eq_true (by first | (with_reducible assumption) | assumption)
                                  have q174 : x13_4 < (t169.length : Int) := of_decide_eq_true (by first | (with_reducible assumption) | assumption)
                                  obtain ⟨ad174, e174, hx174_0⟩ := Kd.at_int (Kd.R_reads' HO_11.out).2.2 x13_4 p174 q174
                                  obtain rfl : ad173 = ad174 := (by injection e174)
                                  replace p174 := eq_true p174
                                  replace q174 := eq_true q174
                                  go_wp2
                                  go_ret
                                  exact ⟨by first | rfl | (simp [errW_none, errW_some] <;> rfl) | (simp [*, errW_none, errW_some] <;> rfl), by repeat (first | (with_reducible first | exact HB.out | apply below_alloc | apply pw_below_drewN | apply below_drew1) | exact HB.out)⟩
                                · rw [if_neg c32] at H
                                  have c32b0 : decide (a0 ≤ (rd t169 x13_4)) = false := decide_eq_false c32
                                  clear c32
                                  by_cases c34 : 0 ≤ (rd t169 x13_4)
                                  · rw [if_pos c34] at H
                                    have c34b0 : decide (0 ≤ (rd t169 x13_4)) = true := decide_eq_true c34
                                    clear c34
                                    by_cases c35 : (rd t169 x13_4) < (x8_2.length : Int)
                                    · rw [if_pos c35] at H
                                      have c35b0 : decide ((rd t169 x13_4) < (x8_2.length : Int)) = true := decide_eq_true c35
                                      clear c35
                                      by_cases c36 : 0 < (((rd_T27 x8_2 (rd t169 x13_4)).f3).length : Int)
                                      · rw [if_pos c36] at H
                                        have c36b0 : decide (0 < (((rd_T27 x8_2 (rd t169 x13_4)).f3).length : Int)) = true := decide_eq_true c36
                                        have c36b1 : decide (0 < ((rd_T27 x8_2 (rd t169 x13_4)).f3).length) = true := decide_eq_true (by omega)
                                        clear c36
                                        by_cases c37 : ((rd_T40 ((rd_T27 x8_2 (rd t169 x13_4)).f3) 0).f2) = (IntKind.u64.wrap (x13_4))
                                        · rw [if_pos c37] at H
                                          have c37b0 : (((rd_T40 ((rd_T27 x8_2 (rd t169 x13_4)).f3) 0).f2) == (IntKind.u64.wrap (x13_4))) = true := beq_iff_eq.mpr c37
                                          have c37b1 : (((rd_T40 ((rd_T27 x8_2 (rd t169 x13_4)).f3) 0).f2) != (IntKind.u64.wrap (x13_4))) = false := bne_eq_false_iff_eq.mpr c37
                                          clear c37
                                          have H' := Aside0.mk H
                                          clear H
                                          obtain ⟨Ao38, co38, eo38⟩ := Kd.R_slice HO_11.out
                                          subst eo38
                                          have p173 : 0 ≤ (x13_4 : Int) := of_decide_eq_true (by first | (with_reducible assumption) | assumption)
                                          have q173 : x13_4 < (t169.length : Int) := of_decide_eq_true (by first | (with_reducible assumption) | assumption)
                                          obtain ⟨ad173, e173, hx173_0⟩ := Kd.at_int (Kd.R_reads' HO_11.out).2.2 x13_4 p173 q173
                                          cases e173
                                          replace p173 := eq_true p173
                                          replace q173 := eq_true q173
                                          have p174 : 0 ≤ (x13_4 : Int) := of_decide_eq_true (by first | (with_reducible assumption) | assumption)
                                          have q174 : x13_4 < (t169.length : Int) := of_decide_eq_true (by first | (with_reducible assumption) | assumption)
                                          obtain ⟨ad174, e174, hx174_0⟩ := Kd.at_int (Kd.R_reads' HO_11.out).2.2 x13_4 p174 q174
                                          obtain rfl : ad173 = ad174 := (by injection e174)
                                          replace p174 := eq_true p174
                                          replace q174 := eq_true q174
                                          have p175 : 0 ≤ (x13_4 : Int) := of_decide_eq_true (by first | (with_reducible assumption) | assumption)
                                          have q175 : x13_4 < (t169.length : Int) := of_decide_eq_true (by first | (with_reducible assumption) | assumption)
                                          obtain ⟨ad175, e175, hx175_0⟩ := Kd.at_int (Kd.R_reads' HO_11.out).2.2 x13_4 p175 q175
                                          obtain rfl : ad173 = ad175 := (by injection e175)
                                          replace p175 := eq_true p175
                                          replace q175 := eq_true q175
                                          have p176 : 0 ≤ ((rd t169 x13_4) : Int) := of_decide_eq_true (by first | (with_reducible assumption) | assumption)
                                          have q176 : (rd t169 x13_4) < (x8_2.length : Int) := of_decide_eq_true (by first | (with_reducible assumption) | assumption)
                                          obtain ⟨ad176, A176_4, c176_4, A176_5, c176_5, e176, hx176_0, hx176_1, hx176_2, hx176_3, hx176_4, hx176_5, hl176_4, hi176_4, hl176_5, hi176_5⟩ := at_T27 (Kd.S_reads' HO_8.out).2.2 (rd t169 x13_4) p176 q176
                                          cases e176
                                          obtain ⟨ce176, hce176, hMe176, hcc176⟩ := Kd.S_get HO_8.out z27 (rd t169 x13_4) p176 (by first | exact q176 | exact of_decide_eq_true (by first | (with_reducible assumption) | assumption) | (have e_ := (Kd.S_reads' HO_8.out).1; omega))
                                          obtain ⟨ve176_4, ve176_5, rfl, ge176_4, ge176_5⟩ := k27_openM hMe176
                                          have hv176_4 := hcc176 4 _ rfl
                                          rw [add_field _ _ 4 (by omega)] at hv176_4
                                          replace hv176_4 := Option.some.inj (hv176_4.symm.trans hx176_4)
                                          rw [hv176_4] at ge176_4
                                          have HL176_4 := Aside0.mk (show Kd.R k40 40 _ _ _ _ ((rd_T27 x8_2 (rd t169 x13_4)).f3) from ge176_4)
                                          clear hv176_4 ge176_4
                                          have hv176_5 := hcc176 5 _ rfl
                                          rw [add_field _ _ 5 (by omega)] at hv176_5
                                          replace hv176_5 := Option.some.inj (hv176_5.symm.trans hx176_5)
                                          rw [hv176_5] at ge176_5
                                          have HL176_5 := Aside0.mk (show Kd.R k40 40 _ _ _ _ ((rd_T27 x8_2 (rd t169 x13_4)).f4) from ge176_5)
                                          clear hv176_5 ge176_5
                                          clear hcc176 hce176
                                          have HR176_4 := Aside0.mk hi176_4
                                          have HC176_4 := Aside0.mk hl176_4
                                          clear hi176_4 hl176_4
                                          have HR176_5 := Aside0.mk hi176_5
                                          have HC176_5 := Aside0.mk hl176_5
                                          clear hi176_5 hl176_5
                                          replace p176 := eq_true p176
                                          replace q176 := eq_true q176
                                          have p177 : 0 ≤ (0 : Int) := (by omega)
                                          have q177 : 0 < (((rd_T27 x8_2 (rd t169 x13_4)).f3).length : Int) := of_decide_eq_true (by first | (with_reducible assumption) | assumption)
                                          obtain ⟨ad177, e177, hx177_0, hx177_1, hx177_2⟩ := at_T40 (by repeat (first | (with_reducible exact HR176_4.out) | (with_reducible refine Kd.C_alloc ?_ _) | (with_reducible refine Kd.C_drewN ?_ _) | (with_reducible refine Kd.C_drew ?_) | exact HR176_4.out)) 0 p177 q177
                                          cases e177
                                          have qi177 : (0 < ((rd_T27 x8_2 (rd t169 x13_4)).f3).length) = True := eq_true (by omega)
                                          (try rw [show ((0 : Int)).toNat = 0 from rfl] at hx177_0)
                                          (try rw [show 0 * 3 = 0 from rfl] at hx177_0)
                                          (try rw [Addr.add_zero'] at hx177_0)
                                          (try rw [show ((0 : Int)).toNat = 0 from rfl] at hx177_1)
                                          (try rw [show 0 * 3 = 0 from rfl] at hx177_1)
                                          (try rw [Addr.add_zero'] at hx177_1)
                                          (try rw [show ((0 : Int)).toNat = 0 from rfl] at hx177_2)
                                          (try rw [show 0 * 3 = 0 from rfl] at hx177_2)
                                          (try rw [Addr.add_zero'] at hx177_2)
                                          replace p177 := eq_true p177
                                          replace q177 := eq_true q177
                                          go_wp2
                                          go_roundg k4
                                          case measure => have := HJ4.out; have := HK2.out; have := HJ20.out; have := HK4.out; omega
                                          case rel => exact ⟨(wrap64 (x13_4 + 1)), (by first | rfl | (simp; done) | (simp [*]; done)), H', ⟨by have := HJ4.out; have := HK2.out; have := HJ20.out; have := HK4.out; omega⟩, ⟨by (with_reducible repeat (first | apply Kd.S_alloc | apply Kd.S_drewN | apply Kd.S_drew)); exact HO_8.out⟩, ⟨by (with_reducible repeat (first | apply Kd.R_alloc | apply Kd.R_drewN | apply Kd.R_drew)); exact HO_11.out⟩, ⟨by repeat (first | (with_reducible first | exact HB.out | apply below_alloc | apply pw_below_drewN | apply below_drew1) | exact HB.out)⟩⟩
                                        · rw [if_neg c37] at H
                                          have c37b0 : (((rd_T40 ((rd_T27 x8_2 (rd t169 x13_4)).f3) 0).f2) == (IntKind.u64.wrap (x13_4))) = false := beq_eq_false_iff_ne.mpr c37
                                          have c37b1 : (((rd_T40 ((rd_T27 x8_2 (rd t169 x13_4)).f3) 0).f2) != (IntKind.u64.wrap (x13_4))) = true := bne_iff_ne.mpr c37
                                          obtain rfl := Option.some.inj H
                                          obtain ⟨Ao39, co39, eo39⟩ := Kd.R_slice HO_11.out
                                          subst eo39
                                          have p173 : 0 ≤ (x13_4 : Int) := of_decide_eq_true (by first | (with_reducible assumption) | assumption)
                                          have q173 : x13_4 < (t169.length : Int) := of_decide_eq_true (by first | (with_reducible assumption) | assumption)
                                          obtain ⟨ad173, e173, hx173_0⟩ := Kd.at_int (Kd.R_reads' HO_11.out).2.2 x13_4 p173 q173
                                          cases e173
                                          replace p173 := eq_true p173
                                          replace q173 := eq_true q173
                                          have p174 : 0 ≤ (x13_4 : Int) := of_decide_eq_true (by first | (with_reducible assumption) | assumption)
                                          have q174 : x13_4 < (t169.length : Int) := of_decide_eq_true (by first | (with_reducible assumption) | assumption)
                                          obtain ⟨ad174, e174, hx174_0⟩ := Kd.at_int (Kd.R_reads' HO_11.out).2.2 x13_4 p174 q174
                                          obtain rfl : ad173 = ad174 := (by injection e174)
                                          replace p174 := eq_true p174
                                          replace q174 := eq_true q174
                                          have p175 : 0 ≤ (x13_4 : Int) := of_decide_eq_true (by first | (with_reducible assumption) | assumption)
                                          have q175 : x13_4 < (t169.length : Int) := of_decide_eq_true (by first | (with_reducible assumption) | assumption)
                                          obtain ⟨ad175, e175, hx175_0⟩ := Kd.at_int (Kd.R_reads' HO_11.out).2.2 x13_4 p175 q175
                                          obtain rfl : ad173 = ad175 := (by injection e175)
                                          replace p175 := eq_true p175
                                          replace q175 := eq_true q175
                                          have p176 : 0 ≤ ((rd t169 x13_4) : Int) := of_decide_eq_true (by first | (with_reducible assumption) | assumption)
                                          have q176 : (rd t169 x13_4) < (x8_2.length : Int) := of_decide_eq_true (by first | (with_reducible assumption) | assumption)
                                          obtain ⟨ad176, A176_4, c176_4, A176_5, c176_5, e176, hx176_0, hx176_1, hx176_2, hx176_3, hx176_4, hx176_5, hl176_4, hi176_4, hl176_5, hi176_5⟩ := at_T27 (Kd.S_reads' HO_8.out).2.2 (rd t169 x13_4) p176 q176
                                          cases e176
                                          obtain ⟨ce176, hce176, hMe176, hcc176⟩ := Kd.S_get HO_8.out z27 (rd t169 x13_4) p176 (by first | exact q176 | exact of_decide_eq_true (by first | (with_reducible assumption) | assumption) | (have e_ := (Kd.S_reads' HO_8.out).1; omega))
                                          obtain ⟨ve176_4, ve176_5, rfl, ge176_4, ge176_5⟩ := k27_openM hMe176
                                          have hv176_4 := hcc176 4 _ rfl
                                          rw [add_field _ _ 4 (by omega)] at hv176_4
                                          replace hv176_4 := Option.some.inj (hv176_4.symm.trans hx176_4)
                                          rw [hv176_4] at ge176_4
                                          have HL176_4 := Aside0.mk (show Kd.R k40 40 _ _ _ _ ((rd_T27 x8_2 (rd t169 x13_4)).f3) from ge176_4)
                                          clear hv176_4 ge176_4
                                          have hv176_5 := hcc176 5 _ rfl
                                          rw [add_field _ _ 5 (by omega)] at hv176_5
                                          replace hv176_5 := Option.some.inj (hv176_5.symm.trans hx176_5)
                                          rw [hv176_5] at ge176_5
                                          have HL176_5 := Aside0.mk (show Kd.R k40 40 _ _ _ _ ((rd_T27 x8_2 (rd t169 x13_4)).f4) from ge176_5)
                                          clear hv176_5 ge176_5
                                          clear hcc176 hce176
                                          have HR176_4 := Aside0.mk hi176_4
                                          have HC176_4 := Aside0.mk hl176_4
                                          clear hi176_4 hl176_4
                                          have HR176_5 := Aside0.mk hi176_5
                                          have HC176_5 := Aside0.mk hl176_5
                                          clear hi176_5 hl176_5
                                          replace p176 := eq_true p176
                                          replace q176 := eq_true q176
                                          have p177 : 0 ≤ (0 : Int) := (by omega)
                                          have q177 : 0 < (((rd_T27 x8_2 (rd t169 x13_4)).f3).length : Int) := of_decide_eq_true (by first | (with_reducible assumption) | assumption)
                                          obtain ⟨ad177, e177, hx177_0, hx177_1, hx177_2⟩ := at_T40 (by repeat (first | (with_reducible exact HR176_4.out) | (with_reducible refine Kd.C_alloc ?_ _) | (with_reducible refine Kd.C_drewN ?_ _) | (with_reducible refine Kd.C_drew ?_) | exact HR176_4.out)) 0 p177 q177
                                          cases e177
                                          have qi177 : (0 < ((rd_T27 x8_2 (rd t169 x13_4)).f3).length) = True := eq_true (by omega)
                                          (try rw [show ((0 : Int)).toNat = 0 from rfl] at hx177_0)
                                          (try rw [show 0 * 3 = 0 from rfl] at hx177_0)
                                          (try rw [Addr.add_zero'] at hx177_0)
                                          (try rw [show ((0 : Int)).toNat = 0 from rfl] at hx177_1)
                                          (try rw [show 0 * 3 = 0 from rfl] at hx177_1)
                                          (try rw [Addr.add_zero'] at hx177_1)
                                          (try rw [show ((0 : Int)).toNat = 0 from rfl] at hx177_2)
                                          (try rw [show 0 * 3 = 0 from rfl] at hx177_2)
                                          (try rw [Addr.add_zero'] at hx177_2)
                                          replace p177 := eq_true p177
                                          replace q177 := eq_true q177
                                          go_wp2
                                          go_ret
                                          exact ⟨by first | rfl | (simp [errW_none, errW_some] <;> rfl) | (simp [*, errW_none, errW_some] <;> rfl), by repeat (first | (with_reducible first | exact HB.out | apply below_alloc | apply pw_below_drewN | apply below_drew1) | exact HB.out)⟩
                                      · rw [if_neg c36] at H
                                        exact absurd H (by simp)
                                    · rw [if_neg c35] at H
                                      exact absurd H (by simp)
                                  · rw [if_neg c34] at H
                                    exact absurd H (by simp)
                            · rw [if_neg c29] at H
                              exact absurd H (by simp)
                          · rw [if_neg c28] at H
                            exact absurd H (by simp)
                        · rw [if_neg c27] at H
                          have c27b0 : decide (x13_4 < a0) = false := decide_eq_false c27
                          clear c27
                          obtain rfl := Option.some.inj H
                          go_wp2
                          go_ret
                          exact ⟨by first | rfl | (simp [errW_none, errW_some] <;> rfl) | (simp [*, errW_none, errW_some] <;> rfl), by repeat (first | (with_reducible first | exact HB.out | apply below_alloc | apply pw_below_drewN | apply below_drew1) | exact HB.out)⟩

end Go.Proofs.Ytbadlkhelhomjaa.Pr
