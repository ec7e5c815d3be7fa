/- What the program's functions compute, and that they compute it: printed out of the translation by a program of this session's (px.py, over the kit's printer). Conditions: none. -/
import Derived.Test.YtdlkpejlkijgcaaPr0
import Derived.Test.YtdlkpejlkijgcaaPr7
import Derived.Test.YtdlkpejlkijgcaaPr10
import Derived.Test.YtdlkpejlkijgcaaHandShown
namespace Go.Proofs.Ytdlkpejlkijgcaa.Pr
open Go.RowKit Go.Proofs.YtdlkpejlkijgcaaW.PrintWords Go.Proofs.YtdlkpejlkijgcaaW.PrintLast Go.Proofs.YtdlkpejlkijgcaaW.PrintMore
attribute [local go_sem] max2_int min2_int max_two min_two max_three min_three max_four min_four   -- for this text's walks alone
set_option linter.unusedVariables false
set_option linter.unusedSimpArgs false

/-! ### ferrulelaw14_CoordStays: function 3 -/
def ferrulelaw14_CoordStays.l0 : Nat → List (S38) → Bool → Int → List (S42) → Option (Bool)
  | 0, _, _, _, _ => none
  | k + 1, x0, x3, x5, x228000 => if x5 < (x0.length : Int) then (if 0 ≤ x5 then ((coord_Do.f k x228000 ((rd_T38 x0 x5).f0) ((rd_T38 x0 x5).f1.f0) ((rd_T38 x0 x5).f1.f1) ((rd_T38 x0 x5).f2) ((rd_T38 x0 x5).f3) ((rd_T38 x0 x5).f4) ((rd_T38 x0 x5).f5)).bind fun bt229 => ((ferruleref14_Right.f k bt229.1).bind fun t237 => (if t237 = true then (ferrulelaw14_CoordStays.l0 k x0 x3 (wrap64 (x5 + 1)) bt229.1) else (some false)))) else (none)) else (some x3)
def ferrulelaw14_CoordStays.f (k : Nat) (l0 : List (S38)) : Option (Bool) := (ferrulelaw14_shown.f).bind fun t226 => (ferrulelaw14_CoordStays.l0 k l0 t226 0 ([] : List (S42)))
theorem ferrulelaw14_CoordStays.mono_l : ∀ k, (∀ y0 y1 y2 y3, LeO (ferrulelaw14_CoordStays.l0 k y0 y1 y2 y3) (ferrulelaw14_CoordStays.l0 (k + 1) y0 y1 y2 y3))
  | 0 => fun _ _ _ _ r h => by simp [ferrulelaw14_CoordStays.l0] at h
  | k + 1 => by
    have ih0 := ferrulelaw14_CoordStays.mono_l k
    · intro y0 y1 y2 y3
      unfold ferrulelaw14_CoordStays.l0
      repeat' first
      | (with_reducible exact ih0 _ _ _ _)
      | (with_reducible exact coord_Do.mono _ _ _ _ _ _ _ _ _)
      | (with_reducible exact ferruleref14_Right.mono _ _)
      | (with_reducible exact LeO.refl _)
      | (with_reducible exact LeO.none _)
      | (with_reducible refine LeO.ite ?_ ?_)
      | (with_reducible refine LeO.bind ?_ (fun _ => ?_))
      | exact ih0 _ _ _ _
      | exact coord_Do.mono _ _ _ _ _ _ _ _ _
      | exact ferruleref14_Right.mono _ _
      | exact LeO.none _
      | refine LeO.ite ?_ ?_
      | refine LeO.bind ?_ (fun _ => ?_)
theorem ferrulelaw14_CoordStays.mono : ∀ a0 k, LeO (ferrulelaw14_CoordStays.f k a0) (ferrulelaw14_CoordStays.f (k + 1) a0) := by
  intro a0 k
  have ih0 := ferrulelaw14_CoordStays.mono_l k
  unfold ferrulelaw14_CoordStays.f
  repeat' first
      | (with_reducible exact ih0 _ _ _ _)
      | (with_reducible exact coord_Do.mono _ _ _ _ _ _ _ _ _)
      | (with_reducible exact ferruleref14_Right.mono _ _)
      | (with_reducible exact LeO.refl _)
      | (with_reducible exact LeO.none _)
      | (with_reducible refine LeO.ite ?_ ?_)
      | (with_reducible refine LeO.bind ?_ (fun _ => ?_))
      | exact ih0 _ _ _ _
      | exact coord_Do.mono _ _ _ _ _ _ _ _ _
      | exact ferruleref14_Right.mono _ _
      | exact LeO.none _
      | refine LeO.ite ?_ ?_
      | refine LeO.bind ?_ (fun _ => ?_)
def ferrulelaw14_CoordStays.T6 : Bool × List (List Nat × List Nat) := (true, [([], []), ([], []), ([], []), ([1, 2], [1, 2]), ([3], [3]), ([0, 4], [0, 4]), ([5], [5]), ([6], [6]), ([6], [6]), ([7, 5, 0, 1, 2, 3, 4, 5, 6, 7], [7])])
def ferrulelaw14_CoordStays.B6 : List Nat := [0, 0, 0, 6, 14, 31, 63, 127, 127, 255]
theorem ferrulelaw14_CoordStays.tab6 : rtab .any (opsOf Try.f3 6) = ferrulelaw14_CoordStays.T6 := by kernel_rfl
theorem ferrulelaw14_CoordStays.bits6 : waitsOk ferrulelaw14_CoordStays.T6.2 ferrulelaw14_CoordStays.B6 = true := by kernel_rfl
set_option maxHeartbeats 8000000 in
set_option maxRecDepth 100000 in
theorem ferrulelaw14_CoordStays.calls (k : Nat) (A0 : Option Addr) (c0 : Nat) (l0 : List (S38)) (r : Bool) (w : World) (hr0 : Kd.C k38 w A0 l0.length l0) (hc0 : l0.length ≤ c0) (h : ferrulelaw14_CoordStays.f k l0 = some r) :
    Calls Try.prog 3 #[.slice A0 l0.length c0] w fun e w' => e = .returned (.bool r) ∧ Below w.heap.size w w' := by
  have hu26 := Try.underlying26
  have hu38 := Try.underlying38
  have HR0 := Aside0.mk hr0
  have HC0 := Aside0.mk hc0
  clear hr0 hc0
  have HB := Aside0.mk (Below.refl w.heap.size w)
  have H : ((ferrulelaw14_shown.f).bind fun t226 => (ferrulelaw14_CoordStays.l0 k l0 t226 0 ([] : List (S42)))) = some r := h
  clear h
  replace H := Option.bind_eq_some_iff.mp H
  obtain ⟨t226, A20, H⟩ := H
  replace H : (ferrulelaw14_CoordStays.l0 k l0 t226 0 ([] : List (S42))) = some r := H
  have A2 := Aside0.mk A20
  clear A20
  have H' := Aside0.mk H
  clear H
  go_enter Try.func3, Try.ntmps3
  go_wp2_with (first | ((with_reducible refine gate_callee (f := 8) rfl ?_); refine goesL_ (some 7) rfl rfl Try.func8 (by kernel_rfl) rfl #[] rfl (by (try simp only [List.map_toArray, List.map_cons, List.map_nil]); first | done | rfl | (simp only [List.length_drop, List.length_take]; rfl)) ?_; (with_reducible refine (ferrulelaw14_shown.calls  t226 _ A2.out).mono ?_); rintro e w3 ⟨rfl, hb⟩; refine ⟨_, rfl, ?_⟩; have n0_ := Aside0.mk (below_step (by repeat (first | (with_reducible first | exact HB.out | apply below_alloc | apply pw_below_drewN | apply below_drew1) | exact HB.out)) hb); clear HB; have HB := n0_; clear n0_; (try clear hb); (try clear hb2); (try clear hk); (try clear hi)) | ((with_reducible refine gate_dst (N := 4) rfl ?_); refine box_event ?hg (N := 4) ?hd (cs := #[.slice none 0 0]) (t := 26) ?hr ?_; (case hd => rfl); (case hg => rfl); (case hr => first | (go_simp; done) | (go_simp; rfl)); intro gb227 hg w4 hbox hb; have n0_ := Aside0.mk (below_step (by repeat (first | (with_reducible first | exact HB.out | apply below_alloc | apply pw_below_drewN | apply below_drew1) | exact HB.out)) hb); have n1_ := Aside0.mk (hbox); have n2_ := Aside0.mk ((by rw [hg]; exact (below_size (by repeat (first | (with_reducible first | exact HB.out | apply below_alloc | apply pw_below_drewN | apply below_drew1) | exact HB.out))) : w.heap.size ≤ gb227)); have n3_ := Aside0.mk ((by rw [hg]; exact (below_size (by repeat (first | (with_reducible first | exact HB.out | apply below_alloc | apply pw_below_drewN | apply below_drew1) | exact HB.out))) : w.heap.size ≤ gb227)); clear HB; have HB := n0_; have BK227 := n1_; have GW227 := n2_; have GE227 := n3_; clear n0_ n1_ n2_ n3_; clear hb hbox hg; have hcz5_0 : w4.cell? ⟨gb227, 0, none⟩ = some (.slice none 0 0) := (blk_cell BK227.out 0).trans rfl; have hfz5_0 := blk_frozen BK227.out 0))
  go_loopg [5] k (fun kq v5 w' => ∃ (x5_1 : Int) (x228000_1 : List (S42)) (u228000 : Value), v5 = .int .i64 x5_1 ∧ Aside0 (ferrulelaw14_CoordStays.l0 kq l0 t226 x5_1 x228000_1 = some r) ∧ Aside0 (kq ≤ k) ∧ Aside0 (Kd.V k42 42 w' w.heap.size (fun k_ => k_ ≠ gb227) u228000 x228000_1) ∧ Aside0 (w'.heap[gb227]? = some (.cells #[u228000] 26 (0, 0))) ∧ Aside0 (Below w.heap.size w w'))
  case atStart => exact ⟨(0), (([] : List (S42))), (.slice none 0 0), (by first | rfl | (simp; done) | (simp [*]; done)), H', ⟨Nat.le_refl _⟩, ⟨Kd.S_V (by first | exact Kd.S_nil _ _ _ _ _ | exact Kd.N_nil _ _ _ _ _ | exact Kd.V_nil _ _ _ _ _ | exact Kd.Q_nil _ _ _ _ _ | exact Kd.R_nil _ _ _ _ _ | exact Kd.S_nil _ _ _ w.heap.size _)⟩, ⟨by (with_reducible repeat (first | refine blk_drewN ?_ _ | refine blk_drew ?_ | refine blk_alloc ?_ _)); refine blk_put (cs := #[.slice none 0 0]) ?_ 0 _ rfl; (with_reducible repeat (first | refine blk_drewN ?_ _ | refine blk_drew ?_ | refine blk_alloc ?_ _)); exact BK227.out⟩, ⟨by repeat (first | (with_reducible first | exact HB.out | apply below_alloc | apply pw_below_drewN | apply below_drew1 | refine below_set ?_ GE227.out) | exact HB.out)⟩⟩
  case round =>
    clear H'
    try clear p2
    try clear c3
    try clear hcz5_0
    try clear hfz5_0
    obtain ⟨x5_1, x228000_1, u228000, rfl, HA, HK1, HO_228000, BK227, HB⟩ := hrel
    cases gk with
    | zero => exact absurd HA.out (by simp [ferrulelaw14_CoordStays.l0])
    | succ k1 =>
      have H := HA.out
      clear HA
      simp only [ferrulelaw14_CoordStays.l0] at H
      by_cases c6 : x5_1 < (l0.length : Int)
      · rw [if_pos c6] at H
        have c6b0 : decide (x5_1 < (l0.length : Int)) = true := decide_eq_true c6
        clear c6
        by_cases c7 : 0 ≤ x5_1
        · rw [if_pos c7] at H
          have c7b0 : decide (0 ≤ x5_1) = true := decide_eq_true c7
          clear c7
          replace H := Option.bind_eq_some_iff.mp H
          obtain ⟨⟨t229, t232, t233, t234, t235, t236⟩, A80, H⟩ := H
          replace H : ((ferruleref14_Right.f k1 t229).bind fun t237 => (if t237 = true then (ferrulelaw14_CoordStays.l0 k1 l0 t226 (wrap64 (x5_1 + 1)) t229) else (some false))) = some r := H
          have A8 := Aside0.mk A80
          clear A80
          replace H := Option.bind_eq_some_iff.mp H
          obtain ⟨t237, A90, H⟩ := H
          replace H : (if t237 = true then (ferrulelaw14_CoordStays.l0 k1 l0 t226 (wrap64 (x5_1 + 1)) t229) else (some false)) = some r := H
          have A9 := Aside0.mk A90
          clear A90
          by_cases c10 : t237 = true
          · subst c10
            have H1 : (ferrulelaw14_CoordStays.l0 k1 l0 t226 (wrap64 (x5_1 + 1)) t229) = some r := by rw [if_pos rfl] at H; exact H
            clear H
            have H := H1
            clear H1
            have H' := Aside0.mk H
            clear H
            try go_wp2
            have n0_ := Aside0.mk (Kd.V_drew HO_228000.out)
            have n1_ := Aside0.mk (blk_drew BK227.out)
            have n2_ := Aside0.mk (below_drew1 HB.out)
            clear HO_228000
            clear BK227
            clear HB
            have HO_228000 := n0_
            have BK227 := n1_
            have HB := n2_
            clear n0_ n1_ n2_
            have p228 : 0 ≤ (x5_1 : Int) := of_decide_eq_true (by first | (with_reducible assumption) | assumption)
            have q228 : x5_1 < (l0.length : Int) := of_decide_eq_true (by first | (with_reducible assumption) | assumption)
            obtain ⟨ad228, A228_4, c228_4, A228_6, c228_6, e228, hx228_0, hx228_1, hx228_2, hx228_3, hx228_4, hx228_5, hx228_6, hl228_4, hi228_4, hl228_6, hi228_6⟩ := at_T38 HR0.out x5_1 p228 q228
            have hw228_6 := hx228_6
            have hw228_5 := hx228_5
            have hw228_4 := hx228_4
            have hw228_3 := hx228_3
            have hw228_2 := hx228_2
            have hw228_1 := hx228_1
            have hw228_0 := hx228_0
            cases e228
            replace hx228_0 := (HB.out.cell (World.block_lt_of_cell? w _ hx228_0)).trans hx228_0
            replace hx228_1 := (HB.out.cell (World.block_lt_of_cell? w _ hx228_1)).trans hx228_1
            replace hx228_2 := (HB.out.cell (World.block_lt_of_cell? w _ hx228_2)).trans hx228_2
            replace hx228_3 := (HB.out.cell (World.block_lt_of_cell? w _ hx228_3)).trans hx228_3
            replace hx228_4 := (HB.out.cell (World.block_lt_of_cell? w _ hx228_4)).trans hx228_4
            replace hx228_5 := (HB.out.cell (World.block_lt_of_cell? w _ hx228_5)).trans hx228_5
            replace hx228_6 := (HB.out.cell (World.block_lt_of_cell? w _ hx228_6)).trans hx228_6
            have HR228_4 := Aside0.mk hi228_4
            have HC228_4 := Aside0.mk hl228_4
            clear hi228_4 hl228_4
            have HR228_6 := Aside0.mk hi228_6
            have HC228_6 := Aside0.mk hl228_6
            clear hi228_6 hl228_6
            replace p228 := eq_true p228
            replace q228 := eq_true q228
            obtain ⟨Ao12, co12, eo12⟩ := Kd.V_slice HO_228000.out
            (first | subst eo12 | (injection eo12 with f1_ f2_ f3_; have f4_ := f1_.symm; have f5_ := f3_.symm; clear f1_ f2_ f3_; subst f4_; subst f5_))
            refine start_ (n := 10) (S := fun w' => w'.cell? ⟨gb227, 0, none⟩ = some (.slice Ao12 x228000_1.length co12) ∧ w'.cell? (ad228.add ((x5_1).toNat * 7)) = some (.int .i64 ((rd_T38 l0 x5_1).f0)) ∧ w'.cell? ⟨(ad228.add ((x5_1).toNat * 7)).block, (ad228.add ((x5_1).toNat * 7)).off + 1, none⟩ = some (.int .u64 ((rd_T38 l0 x5_1).f1.f0)) ∧ w'.cell? ⟨(ad228.add ((x5_1).toNat * 7)).block, (ad228.add ((x5_1).toNat * 7)).off + 2, none⟩ = some (.int .u64 ((rd_T38 l0 x5_1).f1.f1)) ∧ w'.cell? ⟨(ad228.add ((x5_1).toNat * 7)).block, (ad228.add ((x5_1).toNat * 7)).off + 3, none⟩ = some (.string ((rd_T38 l0 x5_1).f2)) ∧ w'.cell? ⟨(ad228.add ((x5_1).toNat * 7)).block, (ad228.add ((x5_1).toNat * 7)).off + 4, none⟩ = some (.slice A228_4 ((rd_T38 l0 x5_1).f3).length c228_4) ∧ w'.cell? ⟨(ad228.add ((x5_1).toNat * 7)).block, (ad228.add ((x5_1).toNat * 7)).off + 5, none⟩ = some (.bool ((rd_T38 l0 x5_1).f4)) ∧ w'.cell? ⟨(ad228.add ((x5_1).toNat * 7)).block, (ad228.add ((x5_1).toNat * 7)).off + 6, none⟩ = some (.slice A228_6 ((rd_T38 l0 x5_1).f5).length c228_6)) (ds := [9]) #[false, false, false, false, false, false, false, false, false, false] (by kernel_rfl) rfl rfl ⟨(blk_cell BK227.out 0).trans rfl, ((HB.out.cell (World.block_lt_of_cell? w _ hw228_0)).trans hw228_0), ((HB.out.cell (World.block_lt_of_cell? w _ hw228_1)).trans hw228_1), ((HB.out.cell (World.block_lt_of_cell? w _ hw228_2)).trans hw228_2), ((HB.out.cell (World.block_lt_of_cell? w _ hw228_3)).trans hw228_3), ((HB.out.cell (World.block_lt_of_cell? w _ hw228_4)).trans hw228_4), ((HB.out.cell (World.block_lt_of_cell? w _ hw228_5)).trans hw228_5), ((HB.out.cell (World.block_lt_of_cell? w _ hw228_6)).trans hw228_6)⟩ (fun hHeld => ?_); refine with_tabW ferrulelaw14_CoordStays.tab6 ferrulelaw14_CoordStays.bits6 (fun HT_ HW_ => ?_)
            generalize wr.drew = w11 at HO_228000 BK227 HB HR228_4 HR228_6 hx228_0 hx228_1 hx228_2 hx228_3 hx228_4 hx228_5 hx228_6 hHeld ⊢
            refine pure_ (i := 1) (N := some 17) (v := ?_) (a' := ?_) #[false, true, false, false, false, false, false, false, false, false] rfl rfl (any_of HT_.out (by kernel_rfl)) (fun _ _ _ h => h) (Or.inl ⟨by rfl, ?_⟩) ?_ ?_
            rotate_left
            · intro w'
              go_simp
              with_reducible rfl
            rotate_left
            · simp only [Act.put, List.setIfInBounds_toArray, List.set_cons_zero, List.set_cons_succ, i64_w, i32_w]
              rfl
            refine pure_ (i := 2) (N := some 18) (v := ?_) (a' := ?_) #[false, true, true, false, false, false, false, false, false, false] rfl rfl (any_of HT_.out (by kernel_rfl)) (fun _ _ _ h => h) (Or.inl ⟨by rfl, ?_⟩) ?_ ?_
            rotate_left
            · intro w'
              go_simp
              with_reducible rfl
            rotate_left
            · simp only [Act.put, List.setIfInBounds_toArray, List.set_cons_zero, List.set_cons_succ, i64_w, i32_w]
              rfl
            refine pure_ (i := 3) (N := some 19) (v := ?_) (a' := ?_) #[false, true, true, true, false, false, false, false, false, false] rfl rfl (any_of HT_.out (by kernel_rfl)) (fun _ _ _ h => h) (Or.inl ⟨by rfl, ?_⟩) ?_ ?_
            rotate_left
            · intro w'
              go_simp
              with_reducible rfl
            rotate_left
            · simp only [Act.put, List.setIfInBounds_toArray, List.set_cons_zero, List.set_cons_succ, i64_w, i32_w]
              rfl
            refine take_ (i := 0) (N := some 16) (v := ?_) (a' := ?_) #[true, true, true, true, false, false, false, false, false, false] rfl rfl (take_ofW HT_.out HW_.out (by kernel_rfl)) (fun _ _ _ h => h) (Or.inl ⟨by rfl, ?_⟩) hHeld ?_ ?_
            rotate_left
            · rintro w' ⟨s0, s1, s2, s3, s4, s5, s6, s7⟩
              go_simp
              with_reducible rfl
            rotate_left
            · simp only [Act.put, List.setIfInBounds_toArray, List.set_cons_zero, List.set_cons_succ, i64_w, i32_w]
              rfl
            refine take_ (i := 4) (N := some 20) (v := ?_) (a' := ?_) #[true, true, true, true, true, false, false, false, false, false] rfl rfl (take_ofW HT_.out HW_.out (by kernel_rfl)) (fun _ _ _ h => h) (Or.inl ⟨by rfl, ?_⟩) hHeld ?_ ?_
            rotate_left
            · rintro w' ⟨s0, s1, s2, s3, s4, s5, s6, s7⟩
              go_simp
              with_reducible rfl
            rotate_left
            · simp only [Act.put, List.setIfInBounds_toArray, List.set_cons_zero, List.set_cons_succ, i64_w, i32_w]
              rfl
            refine one_ (i := 5) (N := some 21) #[true, true, true, true, true, true, false, false, false, false] rfl rfl (one_of HT_.out (by kernel_rfl)) (by decide) (fun K hK => ?_)
            refine goes_ Try.func9 (by kernel_rfl) rfl #[.agg #[.slice Ao12 x228000_1.length co12], .agg #[.int .i64 ((rd_T38 l0 x5_1).f0), .int .u64 ((rd_T38 l0 x5_1).f1.f0), .int .u64 ((rd_T38 l0 x5_1).f1.f1), .string ((rd_T38 l0 x5_1).f2), .slice A228_4 ((rd_T38 l0 x5_1).f3).length c228_4, .bool ((rd_T38 l0 x5_1).f4), .slice A228_6 ((rd_T38 l0 x5_1).f5).length c228_6]] (by rfl) rfl rfl (by (try simp only [List.map_toArray, List.map_cons, List.map_nil]); first | done | rfl | (simp only [List.length_drop, List.length_take]; rfl)) ?_
            with_reducible refine (coord_Do.calls k1 (fun k_ => k_ ≠ gb227) _ _ x228000_1 ((rd_T38 l0 x5_1).f0) ((rd_T38 l0 x5_1).f1.f0) ((rd_T38 l0 x5_1).f1.f1) ((rd_T38 l0 x5_1).f2) _ _ ((rd_T38 l0 x5_1).f3) ((rd_T38 l0 x5_1).f4) _ _ ((rd_T38 l0 x5_1).f5) t229 t232 t233 t234 t235 t236 _ ?side1 ?side2 ?side3 ?side4 ?side5 A8.out).mono ?_
            (case side1 => exact HO_228000.out)
            (case side2 => repeat (first | exact (Kd.C_below HR228_4.out HB.out) | (with_reducible refine Kd.C_alloc ?_ _) | (with_reducible refine Kd.C_drewN ?_ _) | (with_reducible refine Kd.C_drew ?_)))
            (case side3 => exact HC228_4.out)
            (case side4 => repeat (first | exact (Kd.C_below HR228_6.out HB.out) | (with_reducible refine Kd.C_alloc ?_ _) | (with_reducible refine Kd.C_drewN ?_ _) | (with_reducible refine Kd.C_drew ?_)))
            (case side5 => exact HC228_6.out)
            rintro e w13 ⟨v230, rfl, ho0, hb⟩
            refine ⟨_, rfl, ?_⟩
            have n0_ := Aside0.mk (Kd.V_below (by (with_reducible repeat (first | apply Kd.V_alloc | apply Kd.V_drewN | apply Kd.V_drew)); exact HO_228000.out) hb)
            have n1_ := Aside0.mk (Kd.V_lower (Kd.V_mono (ok' := fun k_ => k_ ≠ gb227) ho0 (fun k_ hk_ => Or.elim hk_ (fun hs_ => hs_) (fun hn_ => (Kd.freshB (g := gb227) (o := .cells #[.slice Ao12 x228000_1.length co12] 26 (0, 0)) (by (with_reducible repeat (first | refine blk_drewN ?_ _ | refine blk_drew ?_ | refine blk_alloc ?_ _)); exact BK227.out) k_ hn_)))) (below_size (by repeat (first | (with_reducible first | exact HB.out | apply below_alloc | apply pw_below_drewN | apply below_drew1 | refine below_set ?_ GE227.out) | exact HB.out))))
            have n2_ := Aside0.mk (blk_below (g := gb227) (o := .cells #[.slice Ao12 x228000_1.length co12] 26 (0, 0)) (by (with_reducible repeat (first | refine blk_drewN ?_ _ | refine blk_drew ?_ | refine blk_alloc ?_ _)); exact BK227.out) hb)
            have n3_ := Aside0.mk (below_step (by repeat (first | (with_reducible first | exact HB.out | apply below_alloc | apply pw_below_drewN | apply below_drew1 | refine below_set ?_ GE227.out) | exact HB.out)) hb)
            clear HO_228000
            clear BK227
            clear HB
            have HO_228000 := n0_
            have HO231 := n1_
            have BK227 := n2_
            have HB := n3_
            clear n0_ n1_ n2_ n3_
            (try clear hb)
            (try clear hb2)
            (try clear hk)
            (try clear hi)
            (try clear ho0)
            obtain ⟨Ao14, co14, eo14⟩ := Kd.V_slice HO231.out
            (first | subst eo14 | (injection eo14 with f1_ f2_ f3_; have f4_ := f1_.symm; have f5_ := f3_.symm; clear f1_ f2_ f3_; subst f4_; subst f5_))
            refine hK.out _ _ ⟨(blk_cell BK227.out 0).trans rfl, ((HB.out.cell (World.block_lt_of_cell? w _ hw228_0)).trans hw228_0), ((HB.out.cell (World.block_lt_of_cell? w _ hw228_1)).trans hw228_1), ((HB.out.cell (World.block_lt_of_cell? w _ hw228_2)).trans hw228_2), ((HB.out.cell (World.block_lt_of_cell? w _ hw228_3)).trans hw228_3), ((HB.out.cell (World.block_lt_of_cell? w _ hw228_4)).trans hw228_4), ((HB.out.cell (World.block_lt_of_cell? w _ hw228_5)).trans hw228_5), ((HB.out.cell (World.block_lt_of_cell? w _ hw228_6)).trans hw228_6)⟩ (fun hHeld => ?_)
            clear hK K
            refine norm_ (a' := ?_) ?_ ?_
            rotate_left
            · show Act.put _ (some 21) _ = _
              simp only [Act.put, List.setIfInBounds_toArray, List.set_cons_zero, List.set_cons_succ, i64_w, i32_w]
              rfl
            refine pure_ (i := 6) (N := some 15) (v := ?_) (a' := ?_) #[true, true, true, true, true, true, true, false, false, false] rfl rfl (any_of HT_.out (by kernel_rfl)) (fun _ _ _ h => h) (Or.inl ⟨by rfl, ?_⟩) ?_ ?_
            rotate_left
            · intro w'
              go_simp
              with_reducible rfl
            rotate_left
            · simp only [Act.put, List.setIfInBounds_toArray, List.set_cons_zero, List.set_cons_succ, i64_w, i32_w]
              rfl
            refine pure_ (i := 7) (N := some 22) (v := ?_) (a' := ?_) #[true, true, true, true, true, true, true, true, false, false] rfl rfl (any_of HT_.out (by kernel_rfl)) (fun _ _ _ h => h) (Or.inl ⟨by rfl, ?_⟩) ?_ ?_
            rotate_left
            · intro w'
              go_simp
              with_reducible rfl
            rotate_left
            · simp only [Act.put, List.setIfInBounds_toArray, List.set_cons_zero, List.set_cons_succ, i64_w, i32_w]
              rfl
            refine pure_ (i := 8) (N := some 23) (v := ?_) (a' := ?_) #[true, true, true, true, true, true, true, true, true, false] rfl rfl (any_of HT_.out (by kernel_rfl)) (fun _ _ _ h => h) (Or.inl ⟨by rfl, ?_⟩) ?_ ?_
            rotate_left
            · intro w'
              go_simp
              with_reducible rfl
            rotate_left
            · simp only [Act.put, List.setIfInBounds_toArray, List.set_cons_zero, List.set_cons_succ, i64_w, i32_w]
              rfl
            refine last_ (i := 9) (N := none) #[true, true, true, true, true, true, true, true, true, true] rfl rfl (one_of HT_.out (by kernel_rfl)) (by decide) (fun K hK => ?_)
            have hs15 : w13.cell? ⟨gb227, 0, none⟩ = some (.slice Ao12 x228000_1.length co12) := (blk_cell BK227.out 0).trans rfl
            have hfs15 := blk_frozen BK227.out 0
            refine skip_ (w1 := ?_) (by rfl) rfl ?_ ?_
            rotate_left
            · go_simp
              rfl
            refine hK.out _ _ ?_
            clear hK K
            refine done_ (done_of HT_.out (by kernel_rfl)) ?_
            have hcz16_0 : w13.cell? ⟨gb227, 0, none⟩ = some (.slice Ao12 x228000_1.length co12) := (blk_cell BK227.out 0).trans rfl
            have hfz16_0 := blk_frozen BK227.out 0
            try go_wp2_with (first | ((with_reducible refine gate_callee (f := 10) rfl ?_); refine goesL_ (some 25) rfl rfl Try.func10 (by kernel_rfl) rfl #[.agg #[.slice Ao14 t229.length co14]] rfl (by (try simp only [List.map_toArray, List.map_cons, List.map_nil]); first | done | rfl | (simp only [List.length_drop, List.length_take]; rfl)) ?_; (with_reducible refine (ferruleref14_Right.calls k1 _ _ t229 true _ ?side1 ?side2 A9.out).mono ?_); (case side1 => refine (Kd.V_reads' (e := 42) (base := w.heap.size) (ok := fun k_ => k_ ≠ gb227) (n := t229.length) (c := co14) ?_).2.2; exact (by (with_reducible repeat (first | apply Kd.V_alloc | apply Kd.V_drewN | apply Kd.V_drew)); exact (Kd.V_mono (Kd.V_far (p := ⟨gb227, 0, none⟩) (Kd.V_mono HO231.out (fun k_ hk => (⟨hk, hk⟩ : _ ∧ k_ ≠ gb227))) (fun _ hk => hk.2) (.slice Ao14 t229.length co14)) (fun _ h_ => h_.1)))); (case side2 => exact (Kd.V_reads' HO231.out).2.1); rintro e w17 ⟨rfl, hb⟩; refine ⟨_, rfl, ?_⟩; have n0_ := Aside0.mk (Kd.V_below (by (with_reducible repeat (first | apply Kd.V_alloc | apply Kd.V_drewN | apply Kd.V_drew)); exact (Kd.V_mono (Kd.V_far (p := ⟨gb227, 0, none⟩) (Kd.V_mono HO_228000.out (fun k_ hk => (⟨hk, hk⟩ : _ ∧ k_ ≠ gb227))) (fun _ hk => hk.2) (.slice Ao14 t229.length co14)) (fun _ h_ => h_.1))) hb); have n1_ := Aside0.mk (Kd.V_below (by (with_reducible repeat (first | apply Kd.V_alloc | apply Kd.V_drewN | apply Kd.V_drew)); exact (Kd.V_mono (Kd.V_far (p := ⟨gb227, 0, none⟩) (Kd.V_mono HO231.out (fun k_ hk => (⟨hk, hk⟩ : _ ∧ k_ ≠ gb227))) (fun _ hk => hk.2) (.slice Ao14 t229.length co14)) (fun _ h_ => h_.1))) hb); have n2_ := Aside0.mk (blk_below (g := gb227) (o := .cells #[.slice Ao14 t229.length co14] 26 (0, 0)) (by (with_reducible repeat (first | refine blk_drewN ?_ _ | refine blk_drew ?_ | refine blk_alloc ?_ _)); refine blk_put (cs := #[.slice Ao12 x228000_1.length co12]) ?_ 0 _ rfl; (with_reducible repeat (first | refine blk_drewN ?_ _ | refine blk_drew ?_ | refine blk_alloc ?_ _)); exact BK227.out) hb); have n3_ := Aside0.mk (below_step (by repeat (first | (with_reducible first | exact HB.out | apply below_alloc | apply pw_below_drewN | apply below_drew1 | refine below_set ?_ GE227.out) | exact HB.out)) hb); clear HO_228000; clear HO231; clear BK227; clear HB; have HO_228000 := n0_; have HO231 := n1_; have BK227 := n2_; have HB := n3_; clear n0_ n1_ n2_ n3_; (try clear hb); (try clear hb2); (try clear hk); (try clear hi)))
            go_roundg k1
            case measure => have := HK1.out; omega
            case rel => exact ⟨(wrap64 (x5_1 + 1)), (t229), (.slice Ao14 t229.length co14), (by first | rfl | (simp; done) | (simp [*]; done)), H', ⟨by have := HK1.out; omega⟩, ⟨by (with_reducible repeat (first | apply Kd.V_alloc | apply Kd.V_drewN | apply Kd.V_drew)); exact HO231.out⟩, ⟨by (with_reducible repeat (first | refine blk_drewN ?_ _ | refine blk_drew ?_ | refine blk_alloc ?_ _)); exact BK227.out⟩, ⟨by repeat (first | (with_reducible first | exact HB.out | apply below_alloc | apply pw_below_drewN | apply below_drew1 | refine below_set ?_ GE227.out) | exact HB.out)⟩⟩
          · replace c10 := Bool.eq_false_iff.mpr c10
            subst c10
            have H1 : (some false) = some r := by rw [if_neg (show ¬ (false = true) by decide)] at H; exact H
            clear H
            have H := H1
            clear H1
            obtain rfl := Option.some.inj H
            try go_wp2
            have n0_ := Aside0.mk (Kd.V_drew HO_228000.out)
            have n1_ := Aside0.mk (blk_drew BK227.out)
            have n2_ := Aside0.mk (below_drew1 HB.out)
            clear HO_228000
            clear BK227
            clear HB
            have HO_228000 := n0_
            have BK227 := n1_
            have HB := n2_
            clear n0_ n1_ n2_
            have p228 : 0 ≤ (x5_1 : Int) := of_decide_eq_true (by first | (with_reducible assumption) | assumption)
            have q228 : x5_1 < (l0.length : Int) := of_decide_eq_true (by first | (with_reducible assumption) | assumption)
            obtain ⟨ad228, A228_4, c228_4, A228_6, c228_6, e228, hx228_0, hx228_1, hx228_2, hx228_3, hx228_4, hx228_5, hx228_6, hl228_4, hi228_4, hl228_6, hi228_6⟩ := at_T38 HR0.out x5_1 p228 q228
            have hw228_6 := hx228_6
            have hw228_5 := hx228_5
            have hw228_4 := hx228_4
            have hw228_3 := hx228_3
            have hw228_2 := hx228_2
            have hw228_1 := hx228_1
            have hw228_0 := hx228_0
            cases e228
            replace hx228_0 := (HB.out.cell (World.block_lt_of_cell? w _ hx228_0)).trans hx228_0
            replace hx228_1 := (HB.out.cell (World.block_lt_of_cell? w _ hx228_1)).trans hx228_1
            replace hx228_2 := (HB.out.cell (World.block_lt_of_cell? w _ hx228_2)).trans hx228_2
            replace hx228_3 := (HB.out.cell (World.block_lt_of_cell? w _ hx228_3)).trans hx228_3
            replace hx228_4 := (HB.out.cell (World.block_lt_of_cell? w _ hx228_4)).trans hx228_4
            replace hx228_5 := (HB.out.cell (World.block_lt_of_cell? w _ hx228_5)).trans hx228_5
            replace hx228_6 := (HB.out.cell (World.block_lt_of_cell? w _ hx228_6)).trans hx228_6
            have HR228_4 := Aside0.mk hi228_4
            have HC228_4 := Aside0.mk hl228_4
            clear hi228_4 hl228_4
            have HR228_6 := Aside0.mk hi228_6
            have HC228_6 := Aside0.mk hl228_6
            clear hi228_6 hl228_6
            replace p228 := eq_true p228
            replace q228 := eq_true q228
            obtain ⟨Ao19, co19, eo19⟩ := Kd.V_slice HO_228000.out
            (first | subst eo19 | (injection eo19 with f1_ f2_ f3_; have f4_ := f1_.symm; have f5_ := f3_.symm; clear f1_ f2_ f3_; subst f4_; subst f5_))
            refine start_ (n := 10) (S := fun w' => w'.cell? ⟨gb227, 0, none⟩ = some (.slice Ao19 x228000_1.length co19) ∧ w'.cell? (ad228.add ((x5_1).toNat * 7)) = some (.int .i64 ((rd_T38 l0 x5_1).f0)) ∧ w'.cell? ⟨(ad228.add ((x5_1).toNat * 7)).block, (ad228.add ((x5_1).toNat * 7)).off + 1, none⟩ = some (.int .u64 ((rd_T38 l0 x5_1).f1.f0)) ∧ w'.cell? ⟨(ad228.add ((x5_1).toNat * 7)).block, (ad228.add ((x5_1).toNat * 7)).off + 2, none⟩ = some (.int .u64 ((rd_T38 l0 x5_1).f1.f1)) ∧ w'.cell? ⟨(ad228.add ((x5_1).toNat * 7)).block, (ad228.add ((x5_1).toNat * 7)).off + 3, none⟩ = some (.string ((rd_T38 l0 x5_1).f2)) ∧ w'.cell? ⟨(ad228.add ((x5_1).toNat * 7)).block, (ad228.add ((x5_1).toNat * 7)).off + 4, none⟩ = some (.slice A228_4 ((rd_T38 l0 x5_1).f3).length c228_4) ∧ w'.cell? ⟨(ad228.add ((x5_1).toNat * 7)).block, (ad228.add ((x5_1).toNat * 7)).off + 5, none⟩ = some (.bool ((rd_T38 l0 x5_1).f4)) ∧ w'.cell? ⟨(ad228.add ((x5_1).toNat * 7)).block, (ad228.add ((x5_1).toNat * 7)).off + 6, none⟩ = some (.slice A228_6 ((rd_T38 l0 x5_1).f5).length c228_6)) (ds := [9]) #[false, false, false, false, false, false, false, false, false, false] (by kernel_rfl) rfl rfl ⟨(blk_cell BK227.out 0).trans rfl, ((HB.out.cell (World.block_lt_of_cell? w _ hw228_0)).trans hw228_0), ((HB.out.cell (World.block_lt_of_cell? w _ hw228_1)).trans hw228_1), ((HB.out.cell (World.block_lt_of_cell? w _ hw228_2)).trans hw228_2), ((HB.out.cell (World.block_lt_of_cell? w _ hw228_3)).trans hw228_3), ((HB.out.cell (World.block_lt_of_cell? w _ hw228_4)).trans hw228_4), ((HB.out.cell (World.block_lt_of_cell? w _ hw228_5)).trans hw228_5), ((HB.out.cell (World.block_lt_of_cell? w _ hw228_6)).trans hw228_6)⟩ (fun hHeld => ?_); refine with_tabW ferrulelaw14_CoordStays.tab6 ferrulelaw14_CoordStays.bits6 (fun HT_ HW_ => ?_)
            generalize wr.drew = w18 at HO_228000 BK227 HB HR228_4 HR228_6 hx228_0 hx228_1 hx228_2 hx228_3 hx228_4 hx228_5 hx228_6 hHeld ⊢
            refine pure_ (i := 1) (N := some 17) (v := ?_) (a' := ?_) #[false, true, false, false, false, false, false, false, false, false] rfl rfl (any_of HT_.out (by kernel_rfl)) (fun _ _ _ h => h) (Or.inl ⟨by rfl, ?_⟩) ?_ ?_
            rotate_left
            · intro w'
              go_simp
              with_reducible rfl
            rotate_left
            · simp only [Act.put, List.setIfInBounds_toArray, List.set_cons_zero, List.set_cons_succ, i64_w, i32_w]
              rfl
            refine pure_ (i := 2) (N := some 18) (v := ?_) (a' := ?_) #[false, true, true, false, false, false, false, false, false, false] rfl rfl (any_of HT_.out (by kernel_rfl)) (fun _ _ _ h => h) (Or.inl ⟨by rfl, ?_⟩) ?_ ?_
            rotate_left
            · intro w'
              go_simp
              with_reducible rfl
            rotate_left
            · simp only [Act.put, List.setIfInBounds_toArray, List.set_cons_zero, List.set_cons_succ, i64_w, i32_w]
              rfl
            refine pure_ (i := 3) (N := some 19) (v := ?_) (a' := ?_) #[false, true, true, true, false, false, false, false, false, false] rfl rfl (any_of HT_.out (by kernel_rfl)) (fun _ _ _ h => h) (Or.inl ⟨by rfl, ?_⟩) ?_ ?_
            rotate_left
            · intro w'
              go_simp
              with_reducible rfl
            rotate_left
            · simp only [Act.put, List.setIfInBounds_toArray, List.set_cons_zero, List.set_cons_succ, i64_w, i32_w]
              rfl
            refine take_ (i := 0) (N := some 16) (v := ?_) (a' := ?_) #[true, true, true, true, false, false, false, false, false, false] rfl rfl (take_ofW HT_.out HW_.out (by kernel_rfl)) (fun _ _ _ h => h) (Or.inl ⟨by rfl, ?_⟩) hHeld ?_ ?_
            rotate_left
            · rintro w' ⟨s0, s1, s2, s3, s4, s5, s6, s7⟩
              go_simp
              with_reducible rfl
            rotate_left
            · simp only [Act.put, List.setIfInBounds_toArray, List.set_cons_zero, List.set_cons_succ, i64_w, i32_w]
              rfl
            refine take_ (i := 4) (N := some 20) (v := ?_) (a' := ?_) #[true, true, true, true, true, false, false, false, false, false] rfl rfl (take_ofW HT_.out HW_.out (by kernel_rfl)) (fun _ _ _ h => h) (Or.inl ⟨by rfl, ?_⟩) hHeld ?_ ?_
            rotate_left
            · rintro w' ⟨s0, s1, s2, s3, s4, s5, s6, s7⟩
              go_simp
              with_reducible rfl
            rotate_left
            · simp only [Act.put, List.setIfInBounds_toArray, List.set_cons_zero, List.set_cons_succ, i64_w, i32_w]
              rfl
            refine one_ (i := 5) (N := some 21) #[true, true, true, true, true, true, false, false, false, false] rfl rfl (one_of HT_.out (by kernel_rfl)) (by decide) (fun K hK => ?_)
            refine goes_ Try.func9 (by kernel_rfl) rfl #[.agg #[.slice Ao19 x228000_1.length co19], .agg #[.int .i64 ((rd_T38 l0 x5_1).f0), .int .u64 ((rd_T38 l0 x5_1).f1.f0), .int .u64 ((rd_T38 l0 x5_1).f1.f1), .string ((rd_T38 l0 x5_1).f2), .slice A228_4 ((rd_T38 l0 x5_1).f3).length c228_4, .bool ((rd_T38 l0 x5_1).f4), .slice A228_6 ((rd_T38 l0 x5_1).f5).length c228_6]] (by rfl) rfl rfl (by (try simp only [List.map_toArray, List.map_cons, List.map_nil]); first | done | rfl | (simp only [List.length_drop, List.length_take]; rfl)) ?_
            with_reducible refine (coord_Do.calls k1 (fun k_ => k_ ≠ gb227) _ _ x228000_1 ((rd_T38 l0 x5_1).f0) ((rd_T38 l0 x5_1).f1.f0) ((rd_T38 l0 x5_1).f1.f1) ((rd_T38 l0 x5_1).f2) _ _ ((rd_T38 l0 x5_1).f3) ((rd_T38 l0 x5_1).f4) _ _ ((rd_T38 l0 x5_1).f5) t229 t232 t233 t234 t235 t236 _ ?side1 ?side2 ?side3 ?side4 ?side5 A8.out).mono ?_
            (case side1 => exact HO_228000.out)
            (case side2 => repeat (first | exact (Kd.C_below HR228_4.out HB.out) | (with_reducible refine Kd.C_alloc ?_ _) | (with_reducible refine Kd.C_drewN ?_ _) | (with_reducible refine Kd.C_drew ?_)))
            (case side3 => exact HC228_4.out)
            (case side4 => repeat (first | exact (Kd.C_below HR228_6.out HB.out) | (with_reducible refine Kd.C_alloc ?_ _) | (with_reducible refine Kd.C_drewN ?_ _) | (with_reducible refine Kd.C_drew ?_)))
            (case side5 => exact HC228_6.out)
            rintro e w20 ⟨v230, rfl, ho0, hb⟩
            refine ⟨_, rfl, ?_⟩
            have n0_ := Aside0.mk (Kd.V_below (by (with_reducible repeat (first | apply Kd.V_alloc | apply Kd.V_drewN | apply Kd.V_drew)); exact HO_228000.out) hb)
            have n1_ := Aside0.mk (Kd.V_lower (Kd.V_mono (ok' := fun k_ => k_ ≠ gb227) ho0 (fun k_ hk_ => Or.elim hk_ (fun hs_ => hs_) (fun hn_ => (Kd.freshB (g := gb227) (o := .cells #[.slice Ao19 x228000_1.length co19] 26 (0, 0)) (by (with_reducible repeat (first | refine blk_drewN ?_ _ | refine blk_drew ?_ | refine blk_alloc ?_ _)); exact BK227.out) k_ hn_)))) (below_size (by repeat (first | (with_reducible first | exact HB.out | apply below_alloc | apply pw_below_drewN | apply below_drew1 | refine below_set ?_ GE227.out) | exact HB.out))))
            have n2_ := Aside0.mk (blk_below (g := gb227) (o := .cells #[.slice Ao19 x228000_1.length co19] 26 (0, 0)) (by (with_reducible repeat (first | refine blk_drewN ?_ _ | refine blk_drew ?_ | refine blk_alloc ?_ _)); exact BK227.out) hb)
            have n3_ := Aside0.mk (below_step (by repeat (first | (with_reducible first | exact HB.out | apply below_alloc | apply pw_below_drewN | apply below_drew1 | refine below_set ?_ GE227.out) | exact HB.out)) hb)
            clear HO_228000
            clear BK227
            clear HB
            have HO_228000 := n0_
            have HO231 := n1_
            have BK227 := n2_
            have HB := n3_
            clear n0_ n1_ n2_ n3_
            (try clear hb)
            (try clear hb2)
            (try clear hk)
            (try clear hi)
            (try clear ho0)
            obtain ⟨Ao21, co21, eo21⟩ := Kd.V_slice HO231.out
            (first | subst eo21 | (injection eo21 with f1_ f2_ f3_; have f4_ := f1_.symm; have f5_ := f3_.symm; clear f1_ f2_ f3_; subst f4_; subst f5_))
            refine hK.out _ _ ⟨(blk_cell BK227.out 0).trans rfl, ((HB.out.cell (World.block_lt_of_cell? w _ hw228_0)).trans hw228_0), ((HB.out.cell (World.block_lt_of_cell? w _ hw228_1)).trans hw228_1), ((HB.out.cell (World.block_lt_of_cell? w _ hw228_2)).trans hw228_2), ((HB.out.cell (World.block_lt_of_cell? w _ hw228_3)).trans hw228_3), ((HB.out.cell (World.block_lt_of_cell? w _ hw228_4)).trans hw228_4), ((HB.out.cell (World.block_lt_of_cell? w _ hw228_5)).trans hw228_5), ((HB.out.cell (World.block_lt_of_cell? w _ hw228_6)).trans hw228_6)⟩ (fun hHeld => ?_)
            clear hK K
            refine norm_ (a' := ?_) ?_ ?_
            rotate_left
            · show Act.put _ (some 21) _ = _
              simp only [Act.put, List.setIfInBounds_toArray, List.set_cons_zero, List.set_cons_succ, i64_w, i32_w]
              rfl
            refine pure_ (i := 6) (N := some 15) (v := ?_) (a' := ?_) #[true, true, true, true, true, true, true, false, false, false] rfl rfl (any_of HT_.out (by kernel_rfl)) (fun _ _ _ h => h) (Or.inl ⟨by rfl, ?_⟩) ?_ ?_
            rotate_left
            · intro w'
              go_simp
              with_reducible rfl
            rotate_left
            · simp only [Act.put, List.setIfInBounds_toArray, List.set_cons_zero, List.set_cons_succ, i64_w, i32_w]
              rfl
            refine pure_ (i := 7) (N := some 22) (v := ?_) (a' := ?_) #[true, true, true, true, true, true, true, true, false, false] rfl rfl (any_of HT_.out (by kernel_rfl)) (fun _ _ _ h => h) (Or.inl ⟨by rfl, ?_⟩) ?_ ?_
            rotate_left
            · intro w'
              go_simp
              with_reducible rfl
            rotate_left
            · simp only [Act.put, List.setIfInBounds_toArray, List.set_cons_zero, List.set_cons_succ, i64_w, i32_w]
              rfl
            refine pure_ (i := 8) (N := some 23) (v := ?_) (a' := ?_) #[true, true, true, true, true, true, true, true, true, false] rfl rfl (any_of HT_.out (by kernel_rfl)) (fun _ _ _ h => h) (Or.inl ⟨by rfl, ?_⟩) ?_ ?_
            rotate_left
            · intro w'
              go_simp
              with_reducible rfl
            rotate_left
            · simp only [Act.put, List.setIfInBounds_toArray, List.set_cons_zero, List.set_cons_succ, i64_w, i32_w]
              rfl
            refine last_ (i := 9) (N := none) #[true, true, true, true, true, true, true, true, true, true] rfl rfl (one_of HT_.out (by kernel_rfl)) (by decide) (fun K hK => ?_)
            have hs22 : w20.cell? ⟨gb227, 0, none⟩ = some (.slice Ao19 x228000_1.length co19) := (blk_cell BK227.out 0).trans rfl
            have hfs22 := blk_frozen BK227.out 0
            refine skip_ (w1 := ?_) (by rfl) rfl ?_ ?_
            rotate_left
            · go_simp
              rfl
            refine hK.out _ _ ?_
            clear hK K
            refine done_ (done_of HT_.out (by kernel_rfl)) ?_
            have hcz23_0 : w20.cell? ⟨gb227, 0, none⟩ = some (.slice Ao19 x228000_1.length co19) := (blk_cell BK227.out 0).trans rfl
            have hfz23_0 := blk_frozen BK227.out 0
            try go_wp2_with (first | ((with_reducible refine gate_callee (f := 10) rfl ?_); refine goesL_ (some 25) rfl rfl Try.func10 (by kernel_rfl) rfl #[.agg #[.slice Ao21 t229.length co21]] rfl (by (try simp only [List.map_toArray, List.map_cons, List.map_nil]); first | done | rfl | (simp only [List.length_drop, List.length_take]; rfl)) ?_; (with_reducible refine (ferruleref14_Right.calls k1 _ _ t229 false _ ?side1 ?side2 A9.out).mono ?_); (case side1 => refine (Kd.V_reads' (e := 42) (base := w.heap.size) (ok := fun k_ => k_ ≠ gb227) (n := t229.length) (c := co21) ?_).2.2; exact (by (with_reducible repeat (first | apply Kd.V_alloc | apply Kd.V_drewN | apply Kd.V_drew)); exact (Kd.V_mono (Kd.V_far (p := ⟨gb227, 0, none⟩) (Kd.V_mono HO231.out (fun k_ hk => (⟨hk, hk⟩ : _ ∧ k_ ≠ gb227))) (fun _ hk => hk.2) (.slice Ao21 t229.length co21)) (fun _ h_ => h_.1)))); (case side2 => exact (Kd.V_reads' HO231.out).2.1); rintro e w24 ⟨rfl, hb⟩; refine ⟨_, rfl, ?_⟩; have n0_ := Aside0.mk (Kd.V_below (by (with_reducible repeat (first | apply Kd.V_alloc | apply Kd.V_drewN | apply Kd.V_drew)); exact (Kd.V_mono (Kd.V_far (p := ⟨gb227, 0, none⟩) (Kd.V_mono HO_228000.out (fun k_ hk => (⟨hk, hk⟩ : _ ∧ k_ ≠ gb227))) (fun _ hk => hk.2) (.slice Ao21 t229.length co21)) (fun _ h_ => h_.1))) hb); have n1_ := Aside0.mk (Kd.V_below (by (with_reducible repeat (first | apply Kd.V_alloc | apply Kd.V_drewN | apply Kd.V_drew)); exact (Kd.V_mono (Kd.V_far (p := ⟨gb227, 0, none⟩) (Kd.V_mono HO231.out (fun k_ hk => (⟨hk, hk⟩ : _ ∧ k_ ≠ gb227))) (fun _ hk => hk.2) (.slice Ao21 t229.length co21)) (fun _ h_ => h_.1))) hb); have n2_ := Aside0.mk (blk_below (g := gb227) (o := .cells #[.slice Ao21 t229.length co21] 26 (0, 0)) (by (with_reducible repeat (first | refine blk_drewN ?_ _ | refine blk_drew ?_ | refine blk_alloc ?_ _)); refine blk_put (cs := #[.slice Ao19 x228000_1.length co19]) ?_ 0 _ rfl; (with_reducible repeat (first | refine blk_drewN ?_ _ | refine blk_drew ?_ | refine blk_alloc ?_ _)); exact BK227.out) hb); have n3_ := Aside0.mk (below_step (by repeat (first | (with_reducible first | exact HB.out | apply below_alloc | apply pw_below_drewN | apply below_drew1 | refine below_set ?_ GE227.out) | exact HB.out)) hb); clear HO_228000; clear HO231; clear BK227; clear HB; have HO_228000 := n0_; have HO231 := n1_; have BK227 := n2_; have HB := n3_; clear n0_ n1_ n2_ n3_; (try clear hb); (try clear hb2); (try clear hk); (try clear hi)))
            go_ret
            exact ⟨by first | rfl | (simp [errW_none, errW_some] <;> rfl) | (simp [*, errW_none, errW_some] <;> rfl), by repeat (first | (with_reducible first | exact HB.out | apply below_alloc | apply pw_below_drewN | apply below_drew1 | refine below_set ?_ GE227.out) | exact HB.out)⟩
        · rw [if_neg c7] at H
          exact absurd H (by simp)
      · rw [if_neg c6] at H
        have c6b0 : decide (x5_1 < (l0.length : Int)) = false := decide_eq_false c6
        clear c6
        obtain rfl := Option.some.inj H
        go_wp2
        go_ret
        exact ⟨by first | rfl | (simp [errW_none, errW_some] <;> rfl) | (simp [*, errW_none, errW_some] <;> rfl), by repeat (first | (with_reducible first | exact HB.out | apply below_alloc | apply pw_below_drewN | apply below_drew1 | refine below_set ?_ GE227.out) | exact HB.out)⟩

end Go.Proofs.Ytdlkpejlkijgcaa.Pr
