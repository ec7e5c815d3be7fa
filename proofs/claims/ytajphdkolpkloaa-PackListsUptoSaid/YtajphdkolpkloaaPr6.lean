/- What the program's functions compute, and that they compute it: printed out of the translation by a program of this session's (px.py, over the kit's printer). Conditions: none. -/
import Derived.Test.YtajphdkolpkloaaPr0
import Derived.Test.YtajphdkolpkloaaPr5
namespace Go.Proofs.Ytajphdkolpkloaa.Pr
open Go.RowKit Go.Proofs.YtajphdkolpkloaaW.PrintWords Go.Proofs.YtajphdkolpkloaaW.PrintLast Go.Proofs.YtajphdkolpkloaaW.PrintMore
attribute [local go_sem] max2_int min2_int max_two min_two max_three min_three max_four min_four   -- for this text's walks alone
set_option linter.unusedVariables false
set_option linter.unusedSimpArgs false

/-! ### ferruleref01_TakeNums: function 25 -/
mutual
def ferruleref01_TakeNums.j0 : Nat → Int → ByteArray → Bool → Option (List Int × ByteArray × Int)
  | 0, _, _, _ => none
  | k + 1, x7, x8, x31 => if x31 = true then (some (([] : List Int), (⟨#[]⟩ : ByteArray), 4)) else (ferruleref01_TakeNums.l0 k x7 x8 ([] : List Int) 0)
def ferruleref01_TakeNums.l0 : Nat → Int → ByteArray → List Int → Int → Option (List Int × ByteArray × Int)
  | 0, _, _, _, _ => none
  | k + 1, x7, x8, x10, x11 => if x11 < x7 then ((ferruleref01_TakeNum.f k x8).bind fun bt120 => (if bt120.2.2 = 0 then (if x10.length < 17592186044416 then (ferruleref01_TakeNums.l0 k x7 bt120.2.1 (x10 ++ [bt120.1]) (IntKind.u64.wrap (x11 + 1))) else (none)) else (some (([] : List Int), (⟨#[]⟩ : ByteArray), bt120.2.2)))) else (some (x10, x8, 0))
end
def ferruleref01_TakeNums.f (k : Nat) (a0 : ByteArray) (a1 : Int) : Option (List Int × ByteArray × Int) := (ferruleref01_TakeNum.f k a0).bind fun bt117 => (if bt117.2.2 = 0 then (if a1 < 0 then (ferruleref01_TakeNums.j0 k bt117.1 bt117.2.1 true) else (ferruleref01_TakeNums.j0 k bt117.1 bt117.2.1 (decide (bt117.1 > (IntKind.u64.wrap (a1)))))) else (some (([] : List Int), (⟨#[]⟩ : ByteArray), bt117.2.2)))
theorem ferruleref01_TakeNums.mono_l : ∀ k, (∀ y0 y1 y2, LeO (ferruleref01_TakeNums.j0 k y0 y1 y2) (ferruleref01_TakeNums.j0 (k + 1) y0 y1 y2)) ∧ (∀ y0 y1 y2 y3, LeO (ferruleref01_TakeNums.l0 k y0 y1 y2 y3) (ferruleref01_TakeNums.l0 (k + 1) y0 y1 y2 y3))
  | 0 => ⟨fun _ _ _ r h => by simp [ferruleref01_TakeNums.j0] at h, fun _ _ _ _ r h => by simp [ferruleref01_TakeNums.l0] at h⟩
  | k + 1 => by
    obtain ⟨ih0, ih1⟩ := ferruleref01_TakeNums.mono_l k
    refine ⟨?_, ?_⟩
    · intro y0 y1 y2
      unfold ferruleref01_TakeNums.j0
      repeat' first
      | (with_reducible exact ih0 _ _ _)
      | (with_reducible exact ih1 _ _ _ _)
      | (with_reducible exact ferruleref01_TakeNum.mono _ _)
      | (with_reducible exact LeO.refl _)
      | (with_reducible exact LeO.none _)
      | (with_reducible refine LeO.ite ?_ ?_)
      | (with_reducible refine LeO.bind ?_ (fun _ => ?_))
      | exact ih0 _ _ _
      | exact ih1 _ _ _ _
      | exact ferruleref01_TakeNum.mono _ _
      | exact LeO.none _
      | refine LeO.ite ?_ ?_
      | refine LeO.bind ?_ (fun _ => ?_)
    · intro y0 y1 y2 y3
      unfold ferruleref01_TakeNums.l0
      repeat' first
      | (with_reducible exact ih0 _ _ _)
      | (with_reducible exact ih1 _ _ _ _)
      | (with_reducible exact ferruleref01_TakeNum.mono _ _)
      | (with_reducible exact LeO.refl _)
      | (with_reducible exact LeO.none _)
      | (with_reducible refine LeO.ite ?_ ?_)
      | (with_reducible refine LeO.bind ?_ (fun _ => ?_))
      | exact ih0 _ _ _
      | exact ih1 _ _ _ _
      | exact ferruleref01_TakeNum.mono _ _
      | exact LeO.none _
      | refine LeO.ite ?_ ?_
      | refine LeO.bind ?_ (fun _ => ?_)
theorem ferruleref01_TakeNums.mono : ∀ a0 a1 k, LeO (ferruleref01_TakeNums.f k a0 a1) (ferruleref01_TakeNums.f (k + 1) a0 a1) := by
  intro a0 a1 k
  obtain ⟨ih0, ih1⟩ := ferruleref01_TakeNums.mono_l k
  unfold ferruleref01_TakeNums.f
  repeat' first
      | (with_reducible exact ih0 _ _ _)
      | (with_reducible exact ih1 _ _ _ _)
      | (with_reducible exact ferruleref01_TakeNum.mono _ _)
      | (with_reducible exact LeO.refl _)
      | (with_reducible exact LeO.none _)
      | (with_reducible refine LeO.ite ?_ ?_)
      | (with_reducible refine LeO.bind ?_ (fun _ => ?_))
      | exact ih0 _ _ _
      | exact ih1 _ _ _ _
      | exact ferruleref01_TakeNum.mono _ _
      | exact LeO.none _
      | refine LeO.ite ?_ ?_
      | refine LeO.bind ?_ (fun _ => ?_)
set_option maxHeartbeats 8000000 in
set_option maxRecDepth 100000 in
theorem ferruleref01_TakeNums.calls (k : Nat) (a0 : ByteArray) (a1 : Int) (r1 : List Int) (r2 : ByteArray) (r3 : Int) (w : World) (h : ferruleref01_TakeNums.f k a0 a1 = some (r1, r2, r3)) :
    Calls Try.prog 25 #[.string a0, .int .i64 a1] w fun e w' => ∃ v0_ : Value, e = .returned (.tuple #[v0_, .string r2, .int .i64 r3]) ∧ Kd.R (Kd.int .u64) 22 w' w.heap.size (fun _ => True) v0_ r1 ∧ Below w.heap.size w w' := by
  have HB := Aside0.mk (Below.refl w.heap.size w)
  have H : ((ferruleref01_TakeNum.f k a0).bind fun bt117 => (if bt117.2.2 = 0 then (if a1 < 0 then (ferruleref01_TakeNums.j0 k bt117.1 bt117.2.1 true) else (ferruleref01_TakeNums.j0 k bt117.1 bt117.2.1 (decide (bt117.1 > (IntKind.u64.wrap (a1)))))) else (some (([] : List Int), (⟨#[]⟩ : ByteArray), bt117.2.2)))) = some (r1, r2, r3) := h
  clear h
  replace H := Option.bind_eq_some_iff.mp H
  obtain ⟨⟨t117, t118, t119⟩, A30, H⟩ := H
  replace H : (if t119 = 0 then (if a1 < 0 then (ferruleref01_TakeNums.j0 k t117 t118 true) else (ferruleref01_TakeNums.j0 k t117 t118 (decide (t117 > (IntKind.u64.wrap (a1)))))) else (some (([] : List Int), (⟨#[]⟩ : ByteArray), t119))) = some (r1, r2, r3) := H
  have A3 := Aside0.mk A30
  clear A30
  by_cases c4 : t119 = 0
  · rw [if_pos c4] at H
    have c4b0 : (t119 == 0) = true := beq_iff_eq.mpr c4
    have c4b1 : (t119 != 0) = false := bne_eq_false_iff_eq.mpr c4
    clear c4
    have HC5 := Aside0.mk H
    clear H
    go_enter Try.func25, Try.ntmps25
    go_upto_region 4 with (first | ((with_reducible refine gate_callee (f := 17) rfl ?_); refine goesL_ (some 17) rfl rfl Try.func17 (by kernel_rfl) rfl #[.string a0] rfl (by (try simp only [List.map_toArray, List.map_cons, List.map_nil]); first | done | rfl | (simp only [List.length_drop, List.length_take]; rfl)) ?_; (with_reducible refine (ferruleref01_TakeNum.calls k a0 t117 t118 t119 _ A3.out).mono ?_); rintro e w' ⟨rfl, ⟨nd, rfl⟩⟩; refine ⟨_, rfl, ?_⟩))
    (try simp only [Act.put, List.setIfInBounds_toArray, List.set_cons_zero, List.set_cons_succ])
    go_cut [31] (fun v31 wc => ∃ (kq : Nat) (x31_4 : Bool), v31 = .bool x31_4 ∧ Aside0 (ferruleref01_TakeNums.j0 kq t117 t118 x31_4 = some (r1, r2, r3)) ∧ Aside0 (kq ≤ k) ∧ Aside0 (Below w.heap.size w wc))
    case first =>
      have H := HC5.out
      clear HC5
      by_cases c6 : a1 < 0
      · rw [if_pos c6] at H
        have c6b0 : decide (a1 < 0) = true := decide_eq_true c6
        clear c6
        (first | rw [c6b0] | (simp only [i64_w, i32_w]; rw [c6b0]) | skip)
        have H' := Aside0.mk H
        clear H
        go_wp2
        go_meet
        case rel => exact ⟨_, (true), (by first | rfl | (simp; done) | (simp [*]; done)), H', ⟨by first | omega | exact Nat.le_refl _⟩, ⟨by repeat (first | (with_reducible first | exact HB.out | apply below_alloc | apply pw_below_drewN | apply below_drew1) | exact HB.out)⟩⟩
      · rw [if_neg c6] at H
        have c6b0 : decide (a1 < 0) = false := decide_eq_false c6
        clear c6
        (first | rw [c6b0] | (simp only [i64_w, i32_w]; rw [c6b0]) | skip)
        have H' := Aside0.mk H
        clear H
        go_wp2
        go_meet
        case rel => exact ⟨_, (decide (t117 > (IntKind.u64.wrap (a1)))), (by first | rfl | (simp; done) | (simp [*]; done)), H', ⟨by first | omega | exact Nat.le_refl _⟩, ⟨by repeat (first | (with_reducible first | exact HB.out | apply below_alloc | apply pw_below_drewN | apply below_drew1) | exact HB.out)⟩⟩
    case rest =>
      clear HC5
      try clear c1
      try clear c2
      try clear p2
      try clear c4
      try clear c4b0
      try clear c4b1
      try clear c6
      try clear c6b0
      obtain ⟨kq, x31_4, rfl, HA, HJ4, HB⟩ := hcut
      cases kq with
      | zero => exact absurd HA.out (by simp [ferruleref01_TakeNums.j0])
      | succ kj4 =>
        have H := HA.out
        clear HA
        simp only [ferruleref01_TakeNums.j0] at H
        by_cases c7 : x31_4 = true
        · subst c7
          have H1 : (some (([] : List Int), (⟨#[]⟩ : ByteArray), 4)) = some (r1, r2, r3) := by rw [if_pos rfl] at H; exact H
          clear H
          have H := H1
          clear H1
          simp only [Option.some.injEq, Prod.mk.injEq] at H
          obtain ⟨rfl, rfl, rfl⟩ := H
          go_wp2
          go_ret3
          exact ⟨_, by first | rfl | (simp [errW_none, errW_some] <;> rfl) | (simp [*, errW_none, errW_some] <;> rfl), by first | exact Kd.R_nil _ _ _ _ _ | exact Kd.N_nil _ _ _ _ _ | exact Kd.V_nil _ _ _ _ _ | exact Kd.Q_nil _ _ _ _ _ | exact Kd.S_nil _ _ _ _ _, by repeat (first | (with_reducible first | exact HB.out | apply below_alloc | apply pw_below_drewN | apply below_drew1) | exact HB.out)⟩
        · replace c7 := Bool.eq_false_iff.mpr c7
          subst c7
          have H1 : (ferruleref01_TakeNums.l0 kj4 t117 t118 ([] : List Int) 0) = some (r1, r2, r3) := by rw [if_neg (show ¬ (false = true) by decide)] at H; exact H
          clear H
          have H := H1
          clear H1
          have H' := Aside0.mk H
          clear H
          go_wp2
          go_loopg [8, 10, 11] kj4 (fun kq v8 v10 v11 w' => ∃ (x8_2 : ByteArray) (x10_2 : List Int) (x11_2 : Int), v8 = .string x8_2 ∧ v11 = .int .u64 x11_2 ∧ Aside0 (ferruleref01_TakeNums.l0 kq t117 x8_2 x10_2 x11_2 = some (r1, r2, r3)) ∧ Aside0 (kq ≤ kj4) ∧ Aside0 (Kd.R (Kd.int .u64) 22 w' w.heap.size (fun _ => True) v10 x10_2) ∧ Aside0 (Below w.heap.size w w'))
          case atStart => exact ⟨(t118), (([] : List Int)), (0), (by first | rfl | (simp; done) | (simp [*]; done)), (by first | rfl | (simp; done) | (simp [*]; done)), H', ⟨Nat.le_refl _⟩, ⟨by first | exact Kd.R_nil _ _ _ _ _ | exact Kd.N_nil _ _ _ _ _ | exact Kd.V_nil _ _ _ _ _ | exact Kd.Q_nil _ _ _ _ _ | exact Kd.S_nil _ _ _ _ _⟩, ⟨by repeat (first | (with_reducible first | exact HB.out | apply below_alloc | apply pw_below_drewN | apply below_drew1) | exact HB.out)⟩⟩
          case round =>
            clear H'
            try clear c1
            try clear c2
            try clear p2
            try clear c4
            try clear c4b0
            try clear c4b1
            try clear c6
            try clear c6b0
            try clear c7
            try clear p2
            obtain ⟨x8_2, x10_2, x11_2, rfl, rfl, HA, HK2, HO_10, HB⟩ := hrel
            cases gk with
            | zero => exact absurd HA.out (by simp [ferruleref01_TakeNums.l0])
            | succ k2 =>
              have H := HA.out
              clear HA
              simp only [ferruleref01_TakeNums.l0] at H
              by_cases c8 : x11_2 < t117
              · rw [if_pos c8] at H
                have c8b0 : decide (x11_2 < t117) = true := decide_eq_true c8
                clear c8
                replace H := Option.bind_eq_some_iff.mp H
                obtain ⟨⟨t120, t121, t122⟩, A90, H⟩ := H
                replace H : (if t122 = 0 then (if x10_2.length < 17592186044416 then (ferruleref01_TakeNums.l0 k2 t117 t121 (x10_2 ++ [t120]) (IntKind.u64.wrap (x11_2 + 1))) else (none)) else (some (([] : List Int), (⟨#[]⟩ : ByteArray), t122))) = some (r1, r2, r3) := H
                have A9 := Aside0.mk A90
                clear A90
                by_cases c10 : t122 = 0
                · rw [if_pos c10] at H
                  have c10b0 : (t122 == 0) = true := beq_iff_eq.mpr c10
                  have c10b1 : (t122 != 0) = false := bne_eq_false_iff_eq.mpr c10
                  clear c10
                  by_cases c11 : x10_2.length < 17592186044416
                  · rw [if_pos c11] at H
                    have LMc11 := Aside0.mk c11
                    clear c11
                    obtain ⟨y123, hy123⟩ : ∃ y_ : List Int, y_ = (x10_2 ++ [t120]) := ⟨_, rfl⟩
                    replace H : (ferruleref01_TakeNums.l0 k2 t117 t121 y123 (IntKind.u64.wrap (x11_2 + 1))) = some (r1, r2, r3) := by first | (rw [hy123]; with_reducible exact H) | (have H2_ := (Option.bind_some _ _).symm.trans H; rw [hy123]; with_reducible exact H2_) | (have H2_ := (Option.bind_some _ _).symm.trans H; with_reducible exact H2_) | with_reducible exact H | (rw [hy123]; exact H) | exact H
                    have Ny123 := Aside0.mk hy123
                    clear hy123
                    have H' := Aside0.mk H
                    clear H
                    go_wp2_with (first | ((with_reducible refine gate_callee (f := 17) rfl ?_); refine goesL_ (some 39) rfl rfl Try.func17 (by kernel_rfl) rfl #[.string x8_2] rfl (by (try simp only [List.map_toArray, List.map_cons, List.map_nil]); first | done | rfl | (simp only [List.length_drop, List.length_take]; rfl)) ?_; (with_reducible refine (ferruleref01_TakeNum.calls k2 x8_2 t120 t121 t122 _ A9.out).mono ?_); rintro e w' ⟨rfl, ⟨nd, rfl⟩⟩; refine ⟨_, rfl, ?_⟩) | ((with_reducible refine gate_builtin (b := .append) (xs := #[.tmp 46, .tmp 48]) rfl ?_); at_builtin; refine Kd.R_append (Kd.int .u64) (w0 := w) w.heap.size rfl (.tmp 46) (.tmp 48) 46 22 (.int .u64 0) 8 rfl Try.underlying46 info22 rfl (by decide) (by omega) u10 x10_2 t120 [.int .u64 t120] (fun _ => True) (fun _ => False) rfl rfl ?aP (fun _ hk => hk.elim) ?aF ?aO ?aB ?aS ?aL ?_; (case aP => exact rfl); (case aB => exact (by repeat (first | (with_reducible first | exact HB.out | apply below_alloc | apply pw_below_drewN | apply below_drew1) | exact HB.out))); (case aF => exact (fun _ _ => trivial)); (case aO => exact (by (with_reducible repeat (first | apply Kd.R_alloc | apply Kd.R_drewN | apply Kd.R_drew)); exact HO_10.out)); (case aS => exact (below_size (by repeat (first | (with_reducible first | exact HB.out | apply below_alloc | apply pw_below_drewN | apply below_drew1) | exact HB.out)))); (case aL => have := LMc11.out; omega); intro v124 w12 ho hb hg hat; rw [← Ny123.out] at ho; have n0_ := Aside0.mk (hb); have n1_ := Aside0.mk (ho); clear HB; clear HO_10; have HB := n0_; have HO125 := n1_; clear n0_ n1_; clear ho hb hg hat))
                    go_roundg k2
                    case measure => have := HJ4.out; have := HK2.out; omega
                    case rel => exact ⟨(t121), (y123), (IntKind.u64.wrap (x11_2 + 1)), (by first | rfl | (simp; done) | (simp [*]; done)), (by first | rfl | (simp; done) | (simp [*]; done)), H', ⟨by have := HJ4.out; have := HK2.out; omega⟩, ⟨by (with_reducible repeat (first | apply Kd.R_alloc | apply Kd.R_drewN | apply Kd.R_drew)); exact HO125.out⟩, ⟨by repeat (first | (with_reducible first | exact HB.out | apply below_alloc | apply pw_below_drewN | apply below_drew1) | exact HB.out)⟩⟩
                  · rw [if_neg c11] at H
                    exact absurd H (by simp)
                · rw [if_neg c10] at H
                  have c10b0 : (t122 == 0) = false := beq_eq_false_iff_ne.mpr c10
                  have c10b1 : (t122 != 0) = true := bne_iff_ne.mpr c10
                  simp only [Option.some.injEq, Prod.mk.injEq] at H
                  obtain ⟨rfl, rfl, rfl⟩ := H
                  go_wp2_with (first | ((with_reducible refine gate_callee (f := 17) rfl ?_); refine goesL_ (some 39) rfl rfl Try.func17 (by kernel_rfl) rfl #[.string x8_2] rfl (by (try simp only [List.map_toArray, List.map_cons, List.map_nil]); first | done | rfl | (simp only [List.length_drop, List.length_take]; rfl)) ?_; (with_reducible refine (ferruleref01_TakeNum.calls k2 x8_2 t120 t121 t122 _ A9.out).mono ?_); rintro e w' ⟨rfl, ⟨nd, rfl⟩⟩; refine ⟨_, rfl, ?_⟩))
                  go_ret3
                  exact ⟨_, by first | rfl | (simp [errW_none, errW_some] <;> rfl) | (simp [*, errW_none, errW_some] <;> rfl), by first | exact Kd.R_nil _ _ _ _ _ | exact Kd.N_nil _ _ _ _ _ | exact Kd.V_nil _ _ _ _ _ | exact Kd.Q_nil _ _ _ _ _ | exact Kd.S_nil _ _ _ _ _, by repeat (first | (with_reducible first | exact HB.out | apply below_alloc | apply pw_below_drewN | apply below_drew1) | exact HB.out)⟩
              · rw [if_neg c8] at H
                have c8b0 : decide (x11_2 < t117) = false := decide_eq_false c8
                clear c8
                simp only [Option.some.injEq, Prod.mk.injEq] at H
                obtain ⟨rfl, rfl, rfl⟩ := H
                go_wp2
                go_ret3
                exact ⟨_, by first | rfl | (simp [errW_none, errW_some] <;> rfl) | (simp [*, errW_none, errW_some] <;> rfl), by (with_reducible repeat (first | apply Kd.R_alloc | apply Kd.R_drewN | apply Kd.R_drew)); exact HO_10.out, by repeat (first | (with_reducible first | exact HB.out | apply below_alloc | apply pw_below_drewN | apply below_drew1) | exact HB.out)⟩
  · rw [if_neg c4] at H
    have c4b0 : (t119 == 0) = false := beq_eq_false_iff_ne.mpr c4
    have c4b1 : (t119 != 0) = true := bne_iff_ne.mpr c4
    simp only [Option.some.injEq, Prod.mk.injEq] at H
    obtain ⟨rfl, rfl, rfl⟩ := H
    go_enter Try.func25, Try.ntmps25
    go_wp2_with (first | ((with_reducible refine gate_callee (f := 17) rfl ?_); refine goesL_ (some 17) rfl rfl Try.func17 (by kernel_rfl) rfl #[.string a0] rfl (by (try simp only [List.map_toArray, List.map_cons, List.map_nil]); first | done | rfl | (simp only [List.length_drop, List.length_take]; rfl)) ?_; (with_reducible refine (ferruleref01_TakeNum.calls k a0 t117 t118 t119 _ A3.out).mono ?_); rintro e w' ⟨rfl, ⟨nd, rfl⟩⟩; refine ⟨_, rfl, ?_⟩))
    go_ret3
    exact ⟨_, by first | rfl | (simp [errW_none, errW_some] <;> rfl) | (simp [*, errW_none, errW_some] <;> rfl), by first | exact Kd.R_nil _ _ _ _ _ | exact Kd.N_nil _ _ _ _ _ | exact Kd.V_nil _ _ _ _ _ | exact Kd.Q_nil _ _ _ _ _ | exact Kd.S_nil _ _ _ _ _, by repeat (first | (with_reducible first | exact HB.out | apply below_alloc | apply pw_below_drewN | apply below_drew1) | exact HB.out)⟩

end Go.Proofs.Ytajphdkolpkloaa.Pr
