/- What the program's functions compute, and that they compute it: printed out of the translation by a program of this session's (px.py, over the kit's printer). Conditions: none. -/
import Derived.Test.YtfjhlcbpogihmaaKNoteReads1
import Derived.Test.YtfjhlcbpogihmaaGNoteReadsPr43
namespace Go.Proofs.Ytfjhlcbpogihmaa.Pr
open Go.RowKit Go.Proofs.YtfjhlcbpogihmaaW.PrintWords Go.Proofs.YtfjhlcbpogihmaaW.PrintLast Go.Proofs.YtfjhlcbpogihmaaW.PrintMore
attribute [local go_sem] max2_int min2_int max_two min_two max_three min_three max_four min_four
set_option linter.unusedVariables false
set_option linter.unusedSimpArgs false
/-! ### ferruleref04_one: function 71 -/
def ferruleref04_one.f (k : Nat) (a0 : ByteArray) : Option (Int × Int × Int × Int × ByteArray × Bool) := if (a0.size : Int) = 0 then (some (0, 0, 0, 0, (⟨#[]⟩ : ByteArray), false)) else (if 1 ≤ (a0.size : Int) then ((ferruleref01_TakeNums.f k (a0.extract 1 a0.size) 3).bind fun bt502 => (if bt502.2.2 = 0 then (if (bt502.1.length : Int) = 3 then (if 0 < (a0.size : Int) then (if 0 < (bt502.1.length : Int) then (if 1 < (bt502.1.length : Int) then (if 2 < (bt502.1.length : Int) then ((ferruleref04_NoteMay.f k (wrap64 (bt a0 0)) (rd bt502.1 0) (rd bt502.1 1) (rd bt502.1 2) bt502.2.1).bind fun t511 => (some (wrap64 (bt a0 0), rd bt502.1 0, rd bt502.1 1, rd bt502.1 2, bt502.2.1, t511))) else (none)) else (none)) else (none)) else (none)) else (some (0, 0, 0, 0, (⟨#[]⟩ : ByteArray), false))) else (some (0, 0, 0, 0, (⟨#[]⟩ : ByteArray), false)))) else (none))
def ferruleref04_one.T6 : Bool × List (List Nat × List Nat) := (true, [([], []), ([0], [0]), ([1], [1]), ([], []), ([3], [3]), ([4], [4]), ([], []), ([6], [6]), ([7], [7]), ([], []), ([9], [9]), ([10], [10]), ([], []), ([2, 5, 8, 11, 12], [2, 5, 8, 11, 12]), ([], []), ([14, 13, 0, 1, 2, 3, 4, 5, 6, 7, 8, 9, 10, 11, 12, 13, 14], [13, 14])])
def ferruleref04_one.B6 : List Nat := [0, 1, 3, 0, 8, 24, 0, 64, 192, 0, 512, 1536, 0, 8191, 0, 32767]
theorem ferruleref04_one.tab6 : rtab .any (opsOf Try.f71 6) = ferruleref04_one.T6 := by kernel_rfl
theorem ferruleref04_one.bits6 : waitsOk ferruleref04_one.T6.2 ferruleref04_one.B6 = true := by kernel_rfl
set_option maxHeartbeats 8000000 in
set_option maxRecDepth 100000 in
theorem ferruleref04_one.calls (k : Nat) (a0 : ByteArray) (r1 : Int) (r2 : Int) (r3 : Int) (r4 : Int) (r5 : ByteArray) (r6 : Bool) (w : World) (h : ferruleref04_one.f k a0 = some (r1, r2, r3, r4, r5, r6)) :
    Calls Try.prog 71 #[.string a0] w fun e w' => e = .returned (.tuple #[.agg #[.int .i64 r1, .int .u64 r2, .int .u64 r3, .int .u64 r4, .string r5], .bool r6]) ∧ Below w.heap.size w w' := by
  have hu39 := Try.underlying39
  have HB := Aside0.mk (Below.refl w.heap.size w)
  have H : (if (a0.size : Int) = 0 then (some (0, 0, 0, 0, (⟨#[]⟩ : ByteArray), false)) else (if 1 ≤ (a0.size : Int) then ((ferruleref01_TakeNums.f k (a0.extract 1 a0.size) 3).bind fun bt502 => (if bt502.2.2 = 0 then (if (bt502.1.length : Int) = 3 then (if 0 < (a0.size : Int) then (if 0 < (bt502.1.length : Int) then (if 1 < (bt502.1.length : Int) then (if 2 < (bt502.1.length : Int) then ((ferruleref04_NoteMay.f k (wrap64 (bt a0 0)) (rd bt502.1 0) (rd bt502.1 1) (rd bt502.1 2) bt502.2.1).bind fun t511 => (some (wrap64 (bt a0 0), rd bt502.1 0, rd bt502.1 1, rd bt502.1 2, bt502.2.1, t511))) else (none)) else (none)) else (none)) else (none)) else (some (0, 0, 0, 0, (⟨#[]⟩ : ByteArray), false))) else (some (0, 0, 0, 0, (⟨#[]⟩ : ByteArray), false)))) else (none))) = some (r1, r2, r3, r4, r5, r6) := h
  clear h
  by_cases c2 : (a0.size : Int) = 0
  · rw [if_pos c2] at H
    have c2b0 : ((a0.size : Int) == 0) = true := beq_iff_eq.mpr c2
    have c2b1 : ((a0.size : Int) != 0) = false := bne_eq_false_iff_eq.mpr c2
    clear c2
    simp only [Option.some.injEq, Prod.mk.injEq] at H
    obtain ⟨rfl, rfl, rfl, rfl, rfl, rfl⟩ := H
    go_enter Try.func71, Try.ntmps71
    go_wp2_with (first | ((with_reducible refine gate_dst (N := 2) rfl ?_); (try (refine gate_guard (by rfl) ?_; dsimp only)); refine box_event ?hg (N := 2) ?hd (cs := #[.int .i64 0, .int .u64 0, .int .u64 0, .int .u64 0, .string (⟨#[]⟩ : ByteArray)]) (t := 39) ?hr ?_; (case hd => rfl); (case hg => rfl); (case hr => first | (go_simp; done) | (go_simp; rfl)); intro gb501 hg w3 hbox hb; have n0_ := Aside0.mk (below_step (by repeat (first | (with_reducible first | exact HB.out | apply below_alloc | apply pw_below_drewN | apply below_drew1) | exact HB.out | exact Below.refl _ _)) hb); have n1_ := Aside0.mk (hbox); have n2_ := Aside0.mk ((by rw [hg]; exact (below_size (by repeat (first | (with_reducible first | exact HB.out | apply below_alloc | apply pw_below_drewN | apply below_drew1) | exact HB.out))) : w.heap.size ≤ gb501)); have n3_ := Aside0.mk ((by rw [hg]; exact (below_size (by repeat (first | (with_reducible first | exact HB.out | apply below_alloc | apply pw_below_drewN | apply below_drew1) | exact HB.out))) : w.heap.size ≤ gb501)); clear HB; have HB := n0_; have BK501 := n1_; have GW501 := n2_; have GE501 := n3_; clear n0_ n1_ n2_ n3_; clear hb hbox hg; have hcz4_0 : w3.cell? ⟨gb501, 0, none⟩ = some (.int .i64 0) := (blk_cell BK501.out 0).trans rfl; have hcz4_1 : w3.cell? ⟨gb501, 1, none⟩ = some (.int .u64 0) := (blk_cell BK501.out 1).trans rfl; have hcz4_2 : w3.cell? ⟨gb501, 2, none⟩ = some (.int .u64 0) := (blk_cell BK501.out 2).trans rfl; have hcz4_3 : w3.cell? ⟨gb501, 3, none⟩ = some (.int .u64 0) := (blk_cell BK501.out 3).trans rfl; have hcz4_4 : w3.cell? ⟨gb501, 4, none⟩ = some (.string (⟨#[]⟩ : ByteArray)) := (blk_cell BK501.out 4).trans rfl; have hfz4_0 := blk_frozen BK501.out 0; have hfz4_1 := blk_frozen BK501.out 1; have hfz4_2 := blk_frozen BK501.out 2; have hfz4_3 := blk_frozen BK501.out 3; have hfz4_4 := blk_frozen BK501.out 4))
    refine bodyPost_ret (results_ct rfl _ _ gb501 39 #[.int .i64 0, .int .u64 0, .int .u64 0, .int .u64 0, .string (⟨#[]⟩ : ByteArray)] (0, 0) _ rfl (by (with_reducible repeat (first | refine blk_drewN ?_ _ | refine blk_drew ?_ | refine blk_alloc ?_ _)); refine blk_put (cs := #[.int .i64 0, .int .u64 0, .int .u64 0, .int .u64 0, .string (⟨#[]⟩ : ByteArray)]) ?_ 4 _ rfl; (with_reducible repeat (first | refine blk_drewN ?_ _ | refine blk_drew ?_ | refine blk_alloc ?_ _)); refine blk_put (cs := #[.int .i64 0, .int .u64 0, .int .u64 0, .int .u64 0, .string (⟨#[]⟩ : ByteArray)]) ?_ 3 _ rfl; (with_reducible repeat (first | refine blk_drewN ?_ _ | refine blk_drew ?_ | refine blk_alloc ?_ _)); refine blk_put (cs := #[.int .i64 0, .int .u64 0, .int .u64 0, .int .u64 0, .string (⟨#[]⟩ : ByteArray)]) ?_ 2 _ rfl; (with_reducible repeat (first | refine blk_drewN ?_ _ | refine blk_drew ?_ | refine blk_alloc ?_ _)); refine blk_put (cs := #[.int .i64 0, .int .u64 0, .int .u64 0, .int .u64 0, .string (⟨#[]⟩ : ByteArray)]) ?_ 1 _ rfl; (with_reducible repeat (first | refine blk_drewN ?_ _ | refine blk_drew ?_ | refine blk_alloc ?_ _)); refine blk_put (cs := #[.int .i64 0, .int .u64 0, .int .u64 0, .int .u64 0, .string (⟨#[]⟩ : ByteArray)]) ?_ 0 _ rfl; (with_reducible repeat (first | refine blk_drewN ?_ _ | refine blk_drew ?_ | refine blk_alloc ?_ _)); exact BK501.out) Try.underlying39 rfl (by kernel_rfl)) rfl ?_
    exact ⟨by first | rfl | (simp [errW_none, errW_some] <;> rfl) | (simp [*, errW_none, errW_some] <;> rfl), by repeat (first | (with_reducible first | exact HB.out | apply below_alloc | apply pw_below_drewN | apply below_drew1 | refine below_set ?_ GE501.out) | exact HB.out)⟩
  · rw [if_neg c2] at H
    have c2b0 : ((a0.size : Int) == 0) = false := beq_eq_false_iff_ne.mpr c2
    have c2b1 : ((a0.size : Int) != 0) = true := bne_iff_ne.mpr c2
    by_cases c5 : 1 ≤ (a0.size : Int)
    · rw [if_pos c5] at H
      have c5b0 := eq_true c5
      have c5b1 : decide (1 ≤ (a0.size : Int)) = true := decide_eq_true c5
      clear c5
      replace H := Option.bind_eq_some_iff.mp H
      obtain ⟨⟨t502, t503, t504⟩, A60, H⟩ := H
      replace H : (if t504 = 0 then (if (t502.length : Int) = 3 then (if 0 < (a0.size : Int) then (if 0 < (t502.length : Int) then (if 1 < (t502.length : Int) then (if 2 < (t502.length : Int) then ((ferruleref04_NoteMay.f k (wrap64 (bt a0 0)) (rd t502 0) (rd t502 1) (rd t502 2) t503).bind fun t511 => (some (wrap64 (bt a0 0), rd t502 0, rd t502 1, rd t502 2, t503, t511))) else (none)) else (none)) else (none)) else (none)) else (some (0, 0, 0, 0, (⟨#[]⟩ : ByteArray), false))) else (some (0, 0, 0, 0, (⟨#[]⟩ : ByteArray), false))) = some (r1, r2, r3, r4, r5, r6) := H
      have A6 := Aside0.mk A60
      clear A60
      by_cases c7 : t504 = 0
      · rw [if_pos c7] at H
        have c7b0 : (t504 == 0) = true := beq_iff_eq.mpr c7
        have c7b1 : (t504 != 0) = false := bne_eq_false_iff_eq.mpr c7
        clear c7
        by_cases c8 : (t502.length : Int) = 3
        · rw [if_pos c8] at H
          have c8b0 : ((t502.length : Int) == 3) = true := beq_iff_eq.mpr c8
          have c8b1 : ((t502.length : Int) != 3) = false := bne_eq_false_iff_eq.mpr c8
          clear c8
          by_cases c9 : 0 < (a0.size : Int)
          · rw [if_pos c9] at H
            have c9b0 : decide (0 < (a0.size : Int)) = true := decide_eq_true c9
            have c9b1 : decide (0 < a0.size) = true := decide_eq_true (by omega)
            clear c9
            by_cases c11 : 0 < (t502.length : Int)
            · rw [if_pos c11] at H
              have c11b0 : decide (0 < (t502.length : Int)) = true := decide_eq_true c11
              have c11b1 : decide (0 < t502.length) = true := decide_eq_true (by omega)
              clear c11
              by_cases c12 : 1 < (t502.length : Int)
              · rw [if_pos c12] at H
                have c12b0 : decide (1 < (t502.length : Int)) = true := decide_eq_true c12
                have c12b1 : decide (1 < t502.length) = true := decide_eq_true (by omega)
                clear c12
                by_cases c13 : 2 < (t502.length : Int)
                · rw [if_pos c13] at H
                  have c13b0 : decide (2 < (t502.length : Int)) = true := decide_eq_true c13
                  have c13b1 : decide (2 < t502.length) = true := decide_eq_true (by omega)
                  clear c13
                  replace H := Option.bind_eq_some_iff.mp H
                  obtain ⟨t511, A140, H⟩ := H
                  replace H : (some (wrap64 (bt a0 0), rd t502 0, rd t502 1, rd t502 2, t503, t511)) = some (r1, r2, r3, r4, r5, r6) := H
                  have A14 := Aside0.mk A140
                  clear A140
                  simp only [Option.some.injEq, Prod.mk.injEq] at H
                  obtain ⟨rfl, rfl, rfl, rfl, rfl, rfl⟩ := H
                  go_enter Try.func71, Try.ntmps71
                  try go_wp2_with (first | ((with_reducible refine gate_dst (N := 2) rfl ?_); (try (refine gate_guard (by rfl) ?_; dsimp only)); refine box_event ?hg (N := 2) ?hd (cs := #[.int .i64 0, .int .u64 0, .int .u64 0, .int .u64 0, .string (⟨#[]⟩ : ByteArray)]) (t := 39) ?hr ?_; (case hd => rfl); (case hg => rfl); (case hr => first | (go_simp; done) | (go_simp; rfl)); intro gb501 hg w15 hbox hb; have n0_ := Aside0.mk (below_step (by repeat (first | (with_reducible first | exact HB.out | apply below_alloc | apply pw_below_drewN | apply below_drew1) | exact HB.out | exact Below.refl _ _)) hb); have n1_ := Aside0.mk (hbox); have n2_ := Aside0.mk ((by rw [hg]; exact (below_size (by repeat (first | (with_reducible first | exact HB.out | apply below_alloc | apply pw_below_drewN | apply below_drew1) | exact HB.out))) : w.heap.size ≤ gb501)); have n3_ := Aside0.mk ((by rw [hg]; exact (below_size (by repeat (first | (with_reducible first | exact HB.out | apply below_alloc | apply pw_below_drewN | apply below_drew1) | exact HB.out))) : w.heap.size ≤ gb501)); clear HB; have HB := n0_; have BK501 := n1_; have GW501 := n2_; have GE501 := n3_; clear n0_ n1_ n2_ n3_; clear hb hbox hg) | ((with_reducible refine gate_callee (f := 74) rfl ?_); refine goesL_ (some 16) rfl rfl Try.func74 (by kernel_rfl) rfl #[.string (a0.extract 1 a0.size), .int .i64 3] rfl (by (try simp only [List.map_toArray, List.map_cons, List.map_nil]); first | done | rfl | (simp only [List.length_drop, List.length_take]; rfl)) ?_; (with_reducible refine (ferruleref01_TakeNums.calls k (a0.extract 1 a0.size) 3 t502 t503 t504 _ A6.out).mono ?_); rintro e w16 ⟨v505, rfl, ho0, hb⟩; refine ⟨_, rfl, ?_⟩; have n0_ := Aside0.mk (Kd.R_lower ho0 (below_size (by repeat (first | (with_reducible first | exact HB.out | apply below_alloc | apply pw_below_drewN | apply below_drew1 | refine below_set ?_ GE501.out) | exact HB.out)))); have n1_ := Aside0.mk (blk_below (g := gb501) (o := .cells #[.int .i64 0, .int .u64 0, .int .u64 0, .int .u64 0, .string (⟨#[]⟩ : ByteArray)] 39 (0, 0)) (by (with_reducible repeat (first | refine blk_drewN ?_ _ | refine blk_drew ?_ | refine blk_alloc ?_ _)); exact BK501.out) hb); have n2_ := Aside0.mk (below_step (by repeat (first | (with_reducible first | exact HB.out | apply below_alloc | apply pw_below_drewN | apply below_drew1 | refine below_set ?_ GE501.out) | exact HB.out | exact Below.refl _ _)) hb); clear BK501; clear HB; have HO506 := n0_; have BK501 := n1_; have HB := n2_; clear n0_ n1_ n2_; (try clear hb); (try clear hb2); (try clear hk); (try clear hi); (try clear ho0); obtain ⟨Ao17, co17, eo17⟩ := Kd.R_slice HO506.out; subst eo17))
                  have n0_ := Aside0.mk (Kd.R_drew HO506.out)
                  have n1_ := Aside0.mk (blk_drew BK501.out)
                  have n2_ := Aside0.mk (below_drew1 HB.out)
                  clear HO506
                  clear BK501
                  clear HB
                  have HO506 := n0_
                  have BK501 := n1_
                  have HB := n2_
                  clear n0_ n1_ n2_
                  have p10 : 0 ≤ (0 : Int) := (by omega)
                  have q10 : 0 < a0.size := (by have : (0 : Int) < (a0.size : Int) := of_decide_eq_true (by first | (with_reducible assumption) | assumption); omega)
                  have hx10 : ∀ h : 0 < a0.size, ((a0[0]'h).toNat : Int) = bt a0 0 := bt_at a0 0
                  clear p10
                  have qi10 : (0 < (a0.size : Int)) = True := eq_true (of_decide_eq_true (by first | (with_reducible assumption) | assumption))
                  replace q10 := eq_true q10
                  have p507 : 0 ≤ (0 : Int) := (by omega)
                  have q507 : 0 < (t502.length : Int) := of_decide_eq_true (by first | (with_reducible assumption) | assumption)
                  obtain ⟨ad507, e507, hx507_0⟩ := Kd.at_int (Kd.R_reads' HO506.out).2.2 0 p507 q507
                  cases e507
                  have qi507 : (0 < t502.length) = True := eq_true (by omega)
                  (try rw [show ((0 : Int)).toNat = 0 from rfl] at hx507_0)
                  (try rw [Addr.add_zero'] at hx507_0)
                  replace p507 := eq_true p507
                  replace q507 := eq_true q507
                  have p508 : 0 ≤ (1 : Int) := (by omega)
                  have q508 : 1 < (t502.length : Int) := of_decide_eq_true (by first | (with_reducible assumption) | assumption)
                  obtain ⟨ad508, e508, hx508_0⟩ := Kd.at_int (Kd.R_reads' HO506.out).2.2 1 p508 q508
                  obtain rfl : ad507 = ad508 := (by injection e508)
                  (try simp only [show (1 : Int).toNat = 1 from rfl, Nat.reduceMul, Nat.reduceEqDiff, Go.Addr.add, ↓reduceIte] at hx508_0)
                  have qi508 : (1 < t502.length) = True := eq_true (by omega)
                  (try rw [show ((1 : Int)).toNat = 1 from rfl] at hx508_0)
                  replace p508 := eq_true p508
                  replace q508 := eq_true q508
                  have p509 : 0 ≤ (2 : Int) := (by omega)
                  have q509 : 2 < (t502.length : Int) := of_decide_eq_true (by first | (with_reducible assumption) | assumption)
                  obtain ⟨ad509, e509, hx509_0⟩ := Kd.at_int (Kd.R_reads' HO506.out).2.2 2 p509 q509
                  obtain rfl : ad507 = ad509 := (by injection e509)
                  (try simp only [show (2 : Int).toNat = 2 from rfl, Nat.reduceMul, Nat.reduceEqDiff, Go.Addr.add, ↓reduceIte] at hx509_0)
                  have qi509 : (2 < t502.length) = True := eq_true (by omega)
                  (try rw [show ((2 : Int)).toNat = 2 from rfl] at hx509_0)
                  replace p509 := eq_true p509
                  replace q509 := eq_true q509
                  refine start_ (n := 16) (S := fun w' => w'.cell? ad507 = some (.int .u64 (rd t502 0)) ∧ w'.cell? ⟨ad507.block, ad507.off + 1, none⟩ = some (.int .u64 (rd t502 1)) ∧ w'.cell? ⟨ad507.block, ad507.off + 2, none⟩ = some (.int .u64 (rd t502 2))) (ds := []) #[false, false, false, false, false, false, false, false, false, false, false, false, false, false, false, false] (by kernel_rfl) rfl rfl ⟨hx507_0, hx508_0, hx509_0⟩ (fun hHeld => ?_); refine with_tabW ferruleref04_one.tab6 ferruleref04_one.bits6 (fun HT_ HW_ => ?_)
                  generalize w16.drew = w18 at HO506 BK501 HB hx507_0 hx508_0 hx509_0 hHeld ⊢
                  refine pure_ (i := 0) (N := some 28) (v := ?_) (a' := ?_) #[true, false, false, false, false, false, false, false, false, false, false, false, false, false, false, false] rfl rfl (any_of HT_.out (by kernel_rfl)) (fun _ _ _ h => h) (Or.inl ⟨by rfl, ?_⟩) ?_ ?_
                  rotate_left
                  · intro w'
                    go_simp
                    with_reducible rfl
                  rotate_left
                  · simp only [Act.put, List.setIfInBounds_toArray, List.set_cons_zero, List.set_cons_succ, i64_w, i32_w]
                    rfl
                  refine pure_ (i := 3) (N := some 31) (v := ?_) (a' := ?_) #[true, false, false, true, false, false, false, false, false, false, false, false, false, false, false, false] rfl rfl (any_of HT_.out (by kernel_rfl)) (fun _ _ _ h => h) (Or.inl ⟨by rfl, ?_⟩) ?_ ?_
                  rotate_left
                  · intro w'
                    go_simp
                    with_reducible rfl
                  rotate_left
                  · simp only [Act.put, List.setIfInBounds_toArray, List.set_cons_zero, List.set_cons_succ, i64_w, i32_w]
                    rfl
                  refine pure_ (i := 4) (N := some 32) (v := ?_) (a' := ?_) #[true, false, false, true, true, false, false, false, false, false, false, false, false, false, false, false] rfl rfl (any_of HT_.out (by kernel_rfl)) (fun _ _ _ h => h) (Or.inl ⟨by rfl, ?_⟩) ?_ ?_
                  rotate_left
                  · intro w'
                    go_simp
                    with_reducible rfl
                  rotate_left
                  · simp only [Act.put, List.setIfInBounds_toArray, List.set_cons_zero, List.set_cons_succ, i64_w, i32_w]
                    rfl
                  refine pure_ (i := 6) (N := some 34) (v := ?_) (a' := ?_) #[true, false, false, true, true, false, true, false, false, false, false, false, false, false, false, false] rfl rfl (any_of HT_.out (by kernel_rfl)) (fun _ _ _ h => h) (Or.inl ⟨by rfl, ?_⟩) ?_ ?_
                  rotate_left
                  · intro w'
                    go_simp
                    with_reducible rfl
                  rotate_left
                  · simp only [Act.put, List.setIfInBounds_toArray, List.set_cons_zero, List.set_cons_succ, i64_w, i32_w]
                    rfl
                  refine pure_ (i := 7) (N := some 35) (v := ?_) (a' := ?_) #[true, false, false, true, true, false, true, true, false, false, false, false, false, false, false, false] rfl rfl (any_of HT_.out (by kernel_rfl)) (fun _ _ _ h => h) (Or.inl ⟨by rfl, ?_⟩) ?_ ?_
                  rotate_left
                  · intro w'
                    go_simp
                    with_reducible rfl
                  rotate_left
                  · simp only [Act.put, List.setIfInBounds_toArray, List.set_cons_zero, List.set_cons_succ, i64_w, i32_w]
                    rfl
                  refine pure_ (i := 9) (N := some 37) (v := ?_) (a' := ?_) #[true, false, false, true, true, false, true, true, false, true, false, false, false, false, false, false] rfl rfl (any_of HT_.out (by kernel_rfl)) (fun _ _ _ h => h) (Or.inl ⟨by rfl, ?_⟩) ?_ ?_
                  rotate_left
                  · intro w'
                    go_simp
                    with_reducible rfl
                  rotate_left
                  · simp only [Act.put, List.setIfInBounds_toArray, List.set_cons_zero, List.set_cons_succ, i64_w, i32_w]
                    rfl
                  refine pure_ (i := 10) (N := some 38) (v := ?_) (a' := ?_) #[true, false, false, true, true, false, true, true, false, true, true, false, false, false, false, false] rfl rfl (any_of HT_.out (by kernel_rfl)) (fun _ _ _ h => h) (Or.inl ⟨by rfl, ?_⟩) ?_ ?_
                  rotate_left
                  · intro w'
                    go_simp
                    with_reducible rfl
                  rotate_left
                  · simp only [Act.put, List.setIfInBounds_toArray, List.set_cons_zero, List.set_cons_succ, i64_w, i32_w]
                    rfl
                  refine pure_ (i := 12) (N := some 40) (v := ?_) (a' := ?_) #[true, false, false, true, true, false, true, true, false, true, true, false, true, false, false, false] rfl rfl (any_of HT_.out (by kernel_rfl)) (fun _ _ _ h => h) (Or.inl ⟨by rfl, ?_⟩) ?_ ?_
                  rotate_left
                  · intro w'
                    go_simp
                    with_reducible rfl
                  rotate_left
                  · simp only [Act.put, List.setIfInBounds_toArray, List.set_cons_zero, List.set_cons_succ, i64_w, i32_w]
                    rfl
                  refine take_ (i := 1) (N := some 29) (v := ?_) (a' := ?_) #[true, true, false, true, true, false, true, true, false, true, true, false, true, false, false, false] rfl rfl (take_ofW HT_.out HW_.out (by kernel_rfl)) (fun _ _ _ h => h) (Or.inl ⟨by rfl, ?_⟩) hHeld ?_ ?_
                  rotate_left
                  · rintro w' ⟨s0, s1, s2⟩
                    go_simp
                    with_reducible rfl
                  rotate_left
                  · simp only [Act.put, List.setIfInBounds_toArray, List.set_cons_zero, List.set_cons_succ, i64_w, i32_w]
                    rfl
                  refine pure_ (i := 2) (N := some 30) (v := ?_) (a' := ?_) #[true, true, true, true, true, false, true, true, false, true, true, false, true, false, false, false] rfl rfl (any_of HT_.out (by kernel_rfl)) (fun _ _ _ h => h) (Or.inl ⟨by rfl, ?_⟩) ?_ ?_
                  rotate_left
                  · intro w'
                    go_simp
                    with_reducible rfl
                  rotate_left
                  · simp only [Act.put, List.setIfInBounds_toArray, List.set_cons_zero, List.set_cons_succ, i64_w, i32_w]
                    rfl
                  refine take_ (i := 5) (N := some 33) (v := ?_) (a' := ?_) #[true, true, true, true, true, true, true, true, false, true, true, false, true, false, false, false] rfl rfl (take_ofW HT_.out HW_.out (by kernel_rfl)) (fun _ _ _ h => h) (Or.inl ⟨by rfl, ?_⟩) hHeld ?_ ?_
                  rotate_left
                  · rintro w' ⟨s0, s1, s2⟩
                    go_simp
                    with_reducible rfl
                  rotate_left
                  · simp only [Act.put, List.setIfInBounds_toArray, List.set_cons_zero, List.set_cons_succ, i64_w, i32_w]
                    rfl
                  refine take_ (i := 8) (N := some 36) (v := ?_) (a' := ?_) #[true, true, true, true, true, true, true, true, true, true, true, false, true, false, false, false] rfl rfl (take_ofW HT_.out HW_.out (by kernel_rfl)) (fun _ _ _ h => h) (Or.inl ⟨by rfl, ?_⟩) hHeld ?_ ?_
                  rotate_left
                  · rintro w' ⟨s0, s1, s2⟩
                    go_simp
                    with_reducible rfl
                  rotate_left
                  · simp only [Act.put, List.setIfInBounds_toArray, List.set_cons_zero, List.set_cons_succ, i64_w, i32_w]
                    rfl
                  refine take_ (i := 11) (N := some 39) (v := ?_) (a' := ?_) #[true, true, true, true, true, true, true, true, true, true, true, true, true, false, false, false] rfl rfl (take_ofW HT_.out HW_.out (by kernel_rfl)) (fun _ _ _ h => h) (Or.inl ⟨by rfl, ?_⟩) hHeld ?_ ?_
                  rotate_left
                  · rintro w' ⟨s0, s1, s2⟩
                    go_simp
                    with_reducible rfl
                  rotate_left
                  · simp only [Act.put, List.setIfInBounds_toArray, List.set_cons_zero, List.set_cons_succ, i64_w, i32_w]
                    rfl
                  refine pure_ (i := 13) (N := some 41) (v := ?_) (a' := ?_) #[true, true, true, true, true, true, true, true, true, true, true, true, true, true, false, false] rfl rfl (any_of HT_.out (by kernel_rfl)) (fun _ _ _ h => h) (Or.inl ⟨by rfl, ?_⟩) ?_ ?_
                  rotate_left
                  · intro w'
                    go_simp
                    with_reducible rfl
                  rotate_left
                  · simp only [Act.put, List.setIfInBounds_toArray, List.set_cons_zero, List.set_cons_succ, i64_w, i32_w]
                    rfl
                  refine one_ (i := 14) (N := some 7) #[true, true, true, true, true, true, true, true, true, true, true, true, true, true, true, false] rfl rfl (one_of HT_.out (by kernel_rfl)) (by decide) (fun K hK => ?_)
                  refine box_step ?hg (N := 7) ?hd (cs := #[.int .i64 0, .int .u64 0, .int .u64 0, .int .u64 0, .string (⟨#[]⟩ : ByteArray)]) (t := 39) ?hr ?_; (case hd => rfl); (case hg => rfl); (case hr => first | (go_simp; done) | (go_simp; rfl))
                  intro gb510 hg w19 hbox hb
                  have HS0_ := (hb.cell (World.block_lt_of_cell? _ _ (hHeld.1))).trans (hHeld.1)
                  have HS1_ := (hb.cell (World.block_lt_of_cell? _ _ (hHeld.2.1))).trans (hHeld.2.1)
                  have HS2_ := (hb.cell (World.block_lt_of_cell? _ _ (hHeld.2.2))).trans (hHeld.2.2)
                  have n0_ := Aside0.mk (Kd.R_below (by (with_reducible repeat (first | apply Kd.R_alloc | apply Kd.R_drewN | apply Kd.R_drew)); exact HO506.out) hb)
                  have n1_ := Aside0.mk (blk_below (g := gb501) (o := .cells #[.int .i64 0, .int .u64 0, .int .u64 0, .int .u64 0, .string (⟨#[]⟩ : ByteArray)] 39 (0, 0)) (by (with_reducible repeat (first | refine blk_drewN ?_ _ | refine blk_drew ?_ | refine blk_alloc ?_ _)); exact BK501.out) hb)
                  have n2_ := Aside0.mk (below_step (by repeat (first | (with_reducible first | exact HB.out | apply below_alloc | apply pw_below_drewN | apply below_drew1 | refine below_set ?_ GE501.out) | exact HB.out | exact Below.refl _ _)) hb)
                  have n3_ := Aside0.mk (hbox)
                  have n4_ := Aside0.mk ((by rw [hg]; exact (below_size (by repeat (first | (with_reducible first | exact HB.out | apply below_alloc | apply pw_below_drewN | apply below_drew1 | refine below_set ?_ GE501.out) | exact HB.out))) : w.heap.size ≤ gb510))
                  have n5_ := Aside0.mk ((by rw [hg]; exact (below_size (by repeat (first | (with_reducible first | exact HB.out | apply below_alloc | apply pw_below_drewN | apply below_drew1 | refine below_set ?_ GE501.out) | exact HB.out))) : w.heap.size ≤ gb510))
                  have n6_ := Aside0.mk ((by rw [hg]; exact Nat.ne_of_lt (blk_lt (g := gb501) (o := .cells #[.int .i64 0, .int .u64 0, .int .u64 0, .int .u64 0, .string (⟨#[]⟩ : ByteArray)] 39 (0, 0)) (by (with_reducible repeat (first | refine blk_drewN ?_ _ | refine blk_drew ?_ | refine blk_alloc ?_ _)); exact BK501.out)) : gb501 ≠ gb510))
                  have n7_ := Aside0.mk ((by rw [hg]; exact Nat.ne_of_gt (blk_lt (g := gb501) (o := .cells #[.int .i64 0, .int .u64 0, .int .u64 0, .int .u64 0, .string (⟨#[]⟩ : ByteArray)] 39 (0, 0)) (by (with_reducible repeat (first | refine blk_drewN ?_ _ | refine blk_drew ?_ | refine blk_alloc ?_ _)); exact BK501.out)) : gb510 ≠ gb501))
                  clear HO506
                  clear BK501
                  clear HB
                  have HO506 := n0_
                  have BK501 := n1_
                  have HB := n2_
                  have BK510 := n3_
                  have GW510 := n4_
                  have GE510 := n5_
                  have NB501_510 := n6_
                  have NB510_501 := n7_
                  clear n0_ n1_ n2_ n3_ n4_ n5_ n6_ n7_
                  clear hb hbox hg
                  refine hK.out _ _ ⟨HS0_, HS1_, HS2_⟩ (fun hHeld => ?_)
                  clear hK K
                  refine norm_ (a' := ?_) ?_ ?_
                  rotate_left
                  · show Act.put _ (some 7) _ = _
                    simp only [Act.put, List.setIfInBounds_toArray, List.set_cons_zero, List.set_cons_succ, i64_w, i32_w]
                    rfl
                  refine one_ (i := 15) (N := none) #[true, true, true, true, true, true, true, true, true, true, true, true, true, true, true, true] rfl rfl (one_of HT_.out (by kernel_rfl)) (by decide) (fun K hK => ?_)
                  have hs20 : w19.cell? ⟨gb510, 0, none⟩ = some (.int .i64 0) := (blk_cell BK510.out 0).trans rfl
                  have hfs20 := blk_frozen BK510.out 0
                  have hns20_0 := NB501_510.out
                  have hms20_0 := NB510_501.out
                  have hs21 : w19.cell? ⟨gb510, 1, none⟩ = some (.int .u64 0) := (blk_cell BK510.out 1).trans rfl
                  have hfs21 := blk_frozen BK510.out 1
                  have hns21_0 := NB501_510.out
                  have hms21_0 := NB510_501.out
                  have hs22 : w19.cell? ⟨gb510, 2, none⟩ = some (.int .u64 0) := (blk_cell BK510.out 2).trans rfl
                  have hfs22 := blk_frozen BK510.out 2
                  have hns22_0 := NB501_510.out
                  have hms22_0 := NB510_501.out
                  have hs23 : w19.cell? ⟨gb510, 3, none⟩ = some (.int .u64 0) := (blk_cell BK510.out 3).trans rfl
                  have hfs23 := blk_frozen BK510.out 3
                  have hns23_0 := NB501_510.out
                  have hms23_0 := NB510_501.out
                  have hs24 : w19.cell? ⟨gb510, 4, none⟩ = some (.string (⟨#[]⟩ : ByteArray)) := (blk_cell BK510.out 4).trans rfl
                  have hfs24 := blk_frozen BK510.out 4
                  have hns24_0 := NB501_510.out
                  have hms24_0 := NB510_501.out
                  refine skip_ (w1 := ?_) (by rfl) rfl ?_ ?_
                  rotate_left
                  · go_simp
                    rfl
                  refine hK.out _ _ ⟨((cell_far (p := ⟨gb510, _, none⟩) (by first | exact Kd.own_blk (Kd.R_ne HO506.out BK510.out (by decide)) | (rw [add_block]; exact Kd.own_blk (Kd.R_ne HO506.out BK510.out (by decide))) | (show (Addr.add _ _).block ≠ _; rw [add_block]; exact Kd.own_blk (Kd.R_ne HO506.out BK510.out (by decide))) | (dsimp only; exact Kd.own_blk (Kd.R_ne HO506.out BK510.out (by decide)))) _).trans (((cell_far (p := ⟨gb510, _, none⟩) (by first | exact Kd.own_blk (Kd.R_ne HO506.out BK510.out (by decide)) | (rw [add_block]; exact Kd.own_blk (Kd.R_ne HO506.out BK510.out (by decide))) | (show (Addr.add _ _).block ≠ _; rw [add_block]; exact Kd.own_blk (Kd.R_ne HO506.out BK510.out (by decide))) | (dsimp only; exact Kd.own_blk (Kd.R_ne HO506.out BK510.out (by decide)))) _).trans (((cell_far (p := ⟨gb510, _, none⟩) (by first | exact Kd.own_blk (Kd.R_ne HO506.out BK510.out (by decide)) | (rw [add_block]; exact Kd.own_blk (Kd.R_ne HO506.out BK510.out (by decide))) | (show (Addr.add _ _).block ≠ _; rw [add_block]; exact Kd.own_blk (Kd.R_ne HO506.out BK510.out (by decide))) | (dsimp only; exact Kd.own_blk (Kd.R_ne HO506.out BK510.out (by decide)))) _).trans (((cell_far (p := ⟨gb510, _, none⟩) (by first | exact Kd.own_blk (Kd.R_ne HO506.out BK510.out (by decide)) | (rw [add_block]; exact Kd.own_blk (Kd.R_ne HO506.out BK510.out (by decide))) | (show (Addr.add _ _).block ≠ _; rw [add_block]; exact Kd.own_blk (Kd.R_ne HO506.out BK510.out (by decide))) | (dsimp only; exact Kd.own_blk (Kd.R_ne HO506.out BK510.out (by decide)))) _).trans (((cell_far (p := ⟨gb510, _, none⟩) (by first | exact Kd.own_blk (Kd.R_ne HO506.out BK510.out (by decide)) | (rw [add_block]; exact Kd.own_blk (Kd.R_ne HO506.out BK510.out (by decide))) | (show (Addr.add _ _).block ≠ _; rw [add_block]; exact Kd.own_blk (Kd.R_ne HO506.out BK510.out (by decide))) | (dsimp only; exact Kd.own_blk (Kd.R_ne HO506.out BK510.out (by decide)))) _).trans (hHeld.1)))))))))), ((cell_far (p := ⟨gb510, _, none⟩) (by first | exact Kd.own_blk (Kd.R_ne HO506.out BK510.out (by decide)) | (rw [add_block]; exact Kd.own_blk (Kd.R_ne HO506.out BK510.out (by decide))) | (show (Addr.add _ _).block ≠ _; rw [add_block]; exact Kd.own_blk (Kd.R_ne HO506.out BK510.out (by decide))) | (dsimp only; exact Kd.own_blk (Kd.R_ne HO506.out BK510.out (by decide)))) _).trans (((cell_far (p := ⟨gb510, _, none⟩) (by first | exact Kd.own_blk (Kd.R_ne HO506.out BK510.out (by decide)) | (rw [add_block]; exact Kd.own_blk (Kd.R_ne HO506.out BK510.out (by decide))) | (show (Addr.add _ _).block ≠ _; rw [add_block]; exact Kd.own_blk (Kd.R_ne HO506.out BK510.out (by decide))) | (dsimp only; exact Kd.own_blk (Kd.R_ne HO506.out BK510.out (by decide)))) _).trans (((cell_far (p := ⟨gb510, _, none⟩) (by first | exact Kd.own_blk (Kd.R_ne HO506.out BK510.out (by decide)) | (rw [add_block]; exact Kd.own_blk (Kd.R_ne HO506.out BK510.out (by decide))) | (show (Addr.add _ _).block ≠ _; rw [add_block]; exact Kd.own_blk (Kd.R_ne HO506.out BK510.out (by decide))) | (dsimp only; exact Kd.own_blk (Kd.R_ne HO506.out BK510.out (by decide)))) _).trans (((cell_far (p := ⟨gb510, _, none⟩) (by first | exact Kd.own_blk (Kd.R_ne HO506.out BK510.out (by decide)) | (rw [add_block]; exact Kd.own_blk (Kd.R_ne HO506.out BK510.out (by decide))) | (show (Addr.add _ _).block ≠ _; rw [add_block]; exact Kd.own_blk (Kd.R_ne HO506.out BK510.out (by decide))) | (dsimp only; exact Kd.own_blk (Kd.R_ne HO506.out BK510.out (by decide)))) _).trans (((cell_far (p := ⟨gb510, _, none⟩) (by first | exact Kd.own_blk (Kd.R_ne HO506.out BK510.out (by decide)) | (rw [add_block]; exact Kd.own_blk (Kd.R_ne HO506.out BK510.out (by decide))) | (show (Addr.add _ _).block ≠ _; rw [add_block]; exact Kd.own_blk (Kd.R_ne HO506.out BK510.out (by decide))) | (dsimp only; exact Kd.own_blk (Kd.R_ne HO506.out BK510.out (by decide)))) _).trans (hHeld.2.1)))))))))), ((cell_far (p := ⟨gb510, _, none⟩) (by first | exact Kd.own_blk (Kd.R_ne HO506.out BK510.out (by decide)) | (rw [add_block]; exact Kd.own_blk (Kd.R_ne HO506.out BK510.out (by decide))) | (show (Addr.add _ _).block ≠ _; rw [add_block]; exact Kd.own_blk (Kd.R_ne HO506.out BK510.out (by decide))) | (dsimp only; exact Kd.own_blk (Kd.R_ne HO506.out BK510.out (by decide)))) _).trans (((cell_far (p := ⟨gb510, _, none⟩) (by first | exact Kd.own_blk (Kd.R_ne HO506.out BK510.out (by decide)) | (rw [add_block]; exact Kd.own_blk (Kd.R_ne HO506.out BK510.out (by decide))) | (show (Addr.add _ _).block ≠ _; rw [add_block]; exact Kd.own_blk (Kd.R_ne HO506.out BK510.out (by decide))) | (dsimp only; exact Kd.own_blk (Kd.R_ne HO506.out BK510.out (by decide)))) _).trans (((cell_far (p := ⟨gb510, _, none⟩) (by first | exact Kd.own_blk (Kd.R_ne HO506.out BK510.out (by decide)) | (rw [add_block]; exact Kd.own_blk (Kd.R_ne HO506.out BK510.out (by decide))) | (show (Addr.add _ _).block ≠ _; rw [add_block]; exact Kd.own_blk (Kd.R_ne HO506.out BK510.out (by decide))) | (dsimp only; exact Kd.own_blk (Kd.R_ne HO506.out BK510.out (by decide)))) _).trans (((cell_far (p := ⟨gb510, _, none⟩) (by first | exact Kd.own_blk (Kd.R_ne HO506.out BK510.out (by decide)) | (rw [add_block]; exact Kd.own_blk (Kd.R_ne HO506.out BK510.out (by decide))) | (show (Addr.add _ _).block ≠ _; rw [add_block]; exact Kd.own_blk (Kd.R_ne HO506.out BK510.out (by decide))) | (dsimp only; exact Kd.own_blk (Kd.R_ne HO506.out BK510.out (by decide)))) _).trans (((cell_far (p := ⟨gb510, _, none⟩) (by first | exact Kd.own_blk (Kd.R_ne HO506.out BK510.out (by decide)) | (rw [add_block]; exact Kd.own_blk (Kd.R_ne HO506.out BK510.out (by decide))) | (show (Addr.add _ _).block ≠ _; rw [add_block]; exact Kd.own_blk (Kd.R_ne HO506.out BK510.out (by decide))) | (dsimp only; exact Kd.own_blk (Kd.R_ne HO506.out BK510.out (by decide)))) _).trans (hHeld.2.2))))))))))⟩ (fun hHeld => ?_)
                  clear hK K
                  refine done_ (done_of HT_.out (by kernel_rfl)) ?_
                  have hnb25 := NB510_501.out
                  have hnc25 := NB501_510.out
                  have hcz26_0 : w19.cell? ⟨gb510, 0, none⟩ = some (.int .i64 0) := (blk_cell BK510.out 0).trans rfl
                  have hcz26_1 : w19.cell? ⟨gb510, 1, none⟩ = some (.int .u64 0) := (blk_cell BK510.out 1).trans rfl
                  have hcz26_2 : w19.cell? ⟨gb510, 2, none⟩ = some (.int .u64 0) := (blk_cell BK510.out 2).trans rfl
                  have hcz26_3 : w19.cell? ⟨gb510, 3, none⟩ = some (.int .u64 0) := (blk_cell BK510.out 3).trans rfl
                  have hcz26_4 : w19.cell? ⟨gb510, 4, none⟩ = some (.string (⟨#[]⟩ : ByteArray)) := (blk_cell BK510.out 4).trans rfl
                  have hfz26_0 := blk_frozen BK510.out 0
                  have hfz26_1 := blk_frozen BK510.out 1
                  have hfz26_2 := blk_frozen BK510.out 2
                  have hfz26_3 := blk_frozen BK510.out 3
                  have hfz26_4 := blk_frozen BK510.out 4
                  try go_wp2_with (first | ((with_reducible refine gate_callee (f := 68) rfl ?_); refine goesL_ (some 43) rfl rfl Try.func68 (by kernel_rfl) rfl #[.agg #[.int .i64 (wrap64 (bt a0 0)), .int .u64 (rd t502 0), .int .u64 (rd t502 1), .int .u64 (rd t502 2), .string t503]] rfl (by (try simp only [List.map_toArray, List.map_cons, List.map_nil]); first | done | rfl | (simp only [List.length_drop, List.length_take]; rfl)) ?_; (with_reducible refine (ferruleref04_NoteMay.calls k (wrap64 (bt a0 0)) (rd t502 0) (rd t502 1) (rd t502 2) t503 t511 _ A14.out).mono ?_); rintro e w27 ⟨rfl, hb⟩; refine ⟨_, rfl, ?_⟩; have n0_ := Aside0.mk (Kd.R_below (by (with_reducible repeat (first | apply Kd.R_alloc | apply Kd.R_drewN | apply Kd.R_drew)); exact (Kd.R_mono (Kd.R_far (p := ⟨gb510, 4, none⟩) (Kd.R_far (p := ⟨gb510, 3, none⟩) (Kd.R_far (p := ⟨gb510, 2, none⟩) (Kd.R_far (p := ⟨gb510, 1, none⟩) (Kd.R_far (p := ⟨gb510, 0, none⟩) (Kd.R_types HO506.out BK510.out (by decide)) (fun _ hk => hk.2) (.int .i64 (wrap64 (bt a0 0)))) (fun _ hk => hk.2) (.int .u64 (rd t502 0))) (fun _ hk => hk.2) (.int .u64 (rd t502 1))) (fun _ hk => hk.2) (.int .u64 (rd t502 2))) (fun _ hk => hk.2) (.string t503)) (fun _ h_ => h_.1))) hb); have n1_ := Aside0.mk (blk_below (g := gb501) (o := .cells #[.int .i64 0, .int .u64 0, .int .u64 0, .int .u64 0, .string (⟨#[]⟩ : ByteArray)] 39 (0, 0)) (by (with_reducible repeat (first | refine blk_drewN ?_ _ | refine blk_drew ?_ | refine blk_alloc ?_ _)); refine blk_far ?_ NB501_510.out _; (with_reducible repeat (first | refine blk_drewN ?_ _ | refine blk_drew ?_ | refine blk_alloc ?_ _)); refine blk_far ?_ NB501_510.out _; (with_reducible repeat (first | refine blk_drewN ?_ _ | refine blk_drew ?_ | refine blk_alloc ?_ _)); refine blk_far ?_ NB501_510.out _; (with_reducible repeat (first | refine blk_drewN ?_ _ | refine blk_drew ?_ | refine blk_alloc ?_ _)); refine blk_far ?_ NB501_510.out _; (with_reducible repeat (first | refine blk_drewN ?_ _ | refine blk_drew ?_ | refine blk_alloc ?_ _)); refine blk_far ?_ NB501_510.out _; (with_reducible repeat (first | refine blk_drewN ?_ _ | refine blk_drew ?_ | refine blk_alloc ?_ _)); exact BK501.out) hb); have n2_ := Aside0.mk (blk_below (g := gb510) (o := .cells #[.int .i64 (wrap64 (bt a0 0)), .int .u64 (rd t502 0), .int .u64 (rd t502 1), .int .u64 (rd t502 2), .string t503] 39 (0, 0)) (by (with_reducible repeat (first | refine blk_drewN ?_ _ | refine blk_drew ?_ | refine blk_alloc ?_ _)); refine blk_put (cs := #[.int .i64 (wrap64 (bt a0 0)), .int .u64 (rd t502 0), .int .u64 (rd t502 1), .int .u64 (rd t502 2), .string (⟨#[]⟩ : ByteArray)]) ?_ 4 _ rfl; (with_reducible repeat (first | refine blk_drewN ?_ _ | refine blk_drew ?_ | refine blk_alloc ?_ _)); refine blk_put (cs := #[.int .i64 (wrap64 (bt a0 0)), .int .u64 (rd t502 0), .int .u64 (rd t502 1), .int .u64 0, .string (⟨#[]⟩ : ByteArray)]) ?_ 3 _ rfl; (with_reducible repeat (first | refine blk_drewN ?_ _ | refine blk_drew ?_ | refine blk_alloc ?_ _)); refine blk_put (cs := #[.int .i64 (wrap64 (bt a0 0)), .int .u64 (rd t502 0), .int .u64 0, .int .u64 0, .string (⟨#[]⟩ : ByteArray)]) ?_ 2 _ rfl; (with_reducible repeat (first | refine blk_drewN ?_ _ | refine blk_drew ?_ | refine blk_alloc ?_ _)); refine blk_put (cs := #[.int .i64 (wrap64 (bt a0 0)), .int .u64 0, .int .u64 0, .int .u64 0, .string (⟨#[]⟩ : ByteArray)]) ?_ 1 _ rfl; (with_reducible repeat (first | refine blk_drewN ?_ _ | refine blk_drew ?_ | refine blk_alloc ?_ _)); refine blk_put (cs := #[.int .i64 0, .int .u64 0, .int .u64 0, .int .u64 0, .string (⟨#[]⟩ : ByteArray)]) ?_ 0 _ rfl; (with_reducible repeat (first | refine blk_drewN ?_ _ | refine blk_drew ?_ | refine blk_alloc ?_ _)); exact BK510.out) hb); have n3_ := Aside0.mk (below_step (by repeat (first | (with_reducible first | exact HB.out | apply below_alloc | apply pw_below_drewN | apply below_drew1 | refine below_set ?_ GE501.out | refine below_set ?_ GE510.out) | exact HB.out | exact Below.refl _ _)) hb); clear HO506; clear BK501; clear BK510; clear HB; have HO506 := n0_; have BK501 := n1_; have BK510 := n2_; have HB := n3_; clear n0_ n1_ n2_ n3_; (try clear hb); (try clear hb2); (try clear hk); (try clear hi); have hcz28_0 : w27.cell? ⟨gb510, 0, none⟩ = some (.int .i64 (wrap64 (bt a0 0))) := (blk_cell BK510.out 0).trans rfl; have hcz28_1 : w27.cell? ⟨gb510, 1, none⟩ = some (.int .u64 (rd t502 0)) := (blk_cell BK510.out 1).trans rfl; have hcz28_2 : w27.cell? ⟨gb510, 2, none⟩ = some (.int .u64 (rd t502 1)) := (blk_cell BK510.out 2).trans rfl; have hcz28_3 : w27.cell? ⟨gb510, 3, none⟩ = some (.int .u64 (rd t502 2)) := (blk_cell BK510.out 3).trans rfl; have hcz28_4 : w27.cell? ⟨gb510, 4, none⟩ = some (.string t503) := (blk_cell BK510.out 4).trans rfl; have hfz28_0 := blk_frozen BK510.out 0; have hfz28_1 := blk_frozen BK510.out 1; have hfz28_2 := blk_frozen BK510.out 2; have hfz28_3 := blk_frozen BK510.out 3; have hfz28_4 := blk_frozen BK510.out 4; have hcz29_0 : w27.cell? ⟨gb501, 0, none⟩ = some (.int .i64 0) := (blk_cell BK501.out 0).trans rfl; have hcz29_1 : w27.cell? ⟨gb501, 1, none⟩ = some (.int .u64 0) := (blk_cell BK501.out 1).trans rfl; have hcz29_2 : w27.cell? ⟨gb501, 2, none⟩ = some (.int .u64 0) := (blk_cell BK501.out 2).trans rfl; have hcz29_3 : w27.cell? ⟨gb501, 3, none⟩ = some (.int .u64 0) := (blk_cell BK501.out 3).trans rfl; have hcz29_4 : w27.cell? ⟨gb501, 4, none⟩ = some (.string (⟨#[]⟩ : ByteArray)) := (blk_cell BK501.out 4).trans rfl; have hfz29_0 := blk_frozen BK501.out 0; have hfz29_1 := blk_frozen BK501.out 1; have hfz29_2 := blk_frozen BK501.out 2; have hfz29_3 := blk_frozen BK501.out 3; have hfz29_4 := blk_frozen BK501.out 4))
                  refine bodyPost_ret (results_ct rfl _ _ gb501 39 #[.int .i64 (wrap64 (bt a0 0)), .int .u64 (rd t502 0), .int .u64 (rd t502 1), .int .u64 (rd t502 2), .string t503] (0, 0) _ rfl (by (with_reducible repeat (first | refine blk_drewN ?_ _ | refine blk_drew ?_ | refine blk_alloc ?_ _)); refine blk_put (cs := #[.int .i64 (wrap64 (bt a0 0)), .int .u64 (rd t502 0), .int .u64 (rd t502 1), .int .u64 (rd t502 2), .string (⟨#[]⟩ : ByteArray)]) ?_ 4 _ rfl; (with_reducible repeat (first | refine blk_drewN ?_ _ | refine blk_drew ?_ | refine blk_alloc ?_ _)); refine blk_put (cs := #[.int .i64 (wrap64 (bt a0 0)), .int .u64 (rd t502 0), .int .u64 (rd t502 1), .int .u64 0, .string (⟨#[]⟩ : ByteArray)]) ?_ 3 _ rfl; (with_reducible repeat (first | refine blk_drewN ?_ _ | refine blk_drew ?_ | refine blk_alloc ?_ _)); refine blk_put (cs := #[.int .i64 (wrap64 (bt a0 0)), .int .u64 (rd t502 0), .int .u64 0, .int .u64 0, .string (⟨#[]⟩ : ByteArray)]) ?_ 2 _ rfl; (with_reducible repeat (first | refine blk_drewN ?_ _ | refine blk_drew ?_ | refine blk_alloc ?_ _)); refine blk_put (cs := #[.int .i64 (wrap64 (bt a0 0)), .int .u64 0, .int .u64 0, .int .u64 0, .string (⟨#[]⟩ : ByteArray)]) ?_ 1 _ rfl; (with_reducible repeat (first | refine blk_drewN ?_ _ | refine blk_drew ?_ | refine blk_alloc ?_ _)); refine blk_put (cs := #[.int .i64 0, .int .u64 0, .int .u64 0, .int .u64 0, .string (⟨#[]⟩ : ByteArray)]) ?_ 0 _ rfl; (with_reducible repeat (first | refine blk_drewN ?_ _ | refine blk_drew ?_ | refine blk_alloc ?_ _)); exact BK501.out) Try.underlying39 rfl (by kernel_rfl)) rfl ?_
                  exact ⟨by first | rfl | (simp [errW_none, errW_some] <;> rfl) | (simp [*, errW_none, errW_some] <;> rfl), by repeat (first | (with_reducible first | exact HB.out | apply below_alloc | apply pw_below_drewN | apply below_drew1 | refine below_set ?_ GE501.out | refine below_set ?_ GE510.out) | exact HB.out)⟩
                · rw [if_neg c13] at H
                  exact absurd H (by simp)
              · rw [if_neg c12] at H
                exact absurd H (by simp)
            · rw [if_neg c11] at H
              exact absurd H (by simp)
          · rw [if_neg c9] at H
            exact absurd H (by simp)
        · rw [if_neg c8] at H
          have c8b0 : ((t502.length : Int) == 3) = false := beq_eq_false_iff_ne.mpr c8
          have c8b1 : ((t502.length : Int) != 3) = true := bne_iff_ne.mpr c8
          simp only [Option.some.injEq, Prod.mk.injEq] at H
          obtain ⟨rfl, rfl, rfl, rfl, rfl, rfl⟩ := H
          go_enter Try.func71, Try.ntmps71
          go_wp2_with (first | ((with_reducible refine gate_dst (N := 2) rfl ?_); (try (refine gate_guard (by rfl) ?_; dsimp only)); refine box_event ?hg (N := 2) ?hd (cs := #[.int .i64 0, .int .u64 0, .int .u64 0, .int .u64 0, .string (⟨#[]⟩ : ByteArray)]) (t := 39) ?hr ?_; (case hd => rfl); (case hg => rfl); (case hr => first | (go_simp; done) | (go_simp; rfl)); intro gb501 hg w30 hbox hb; have n0_ := Aside0.mk (below_step (by repeat (first | (with_reducible first | exact HB.out | apply below_alloc | apply pw_below_drewN | apply below_drew1) | exact HB.out | exact Below.refl _ _)) hb); have n1_ := Aside0.mk (hbox); have n2_ := Aside0.mk ((by rw [hg]; exact (below_size (by repeat (first | (with_reducible first | exact HB.out | apply below_alloc | apply pw_below_drewN | apply below_drew1) | exact HB.out))) : w.heap.size ≤ gb501)); have n3_ := Aside0.mk ((by rw [hg]; exact (below_size (by repeat (first | (with_reducible first | exact HB.out | apply below_alloc | apply pw_below_drewN | apply below_drew1) | exact HB.out))) : w.heap.size ≤ gb501)); clear HB; have HB := n0_; have BK501 := n1_; have GW501 := n2_; have GE501 := n3_; clear n0_ n1_ n2_ n3_; clear hb hbox hg) | ((with_reducible refine gate_callee (f := 74) rfl ?_); refine goesL_ (some 16) rfl rfl Try.func74 (by kernel_rfl) rfl #[.string (a0.extract 1 a0.size), .int .i64 3] rfl (by (try simp only [List.map_toArray, List.map_cons, List.map_nil]); first | done | rfl | (simp only [List.length_drop, List.length_take]; rfl)) ?_; (with_reducible refine (ferruleref01_TakeNums.calls k (a0.extract 1 a0.size) 3 t502 t503 t504 _ A6.out).mono ?_); rintro e w31 ⟨v505, rfl, ho0, hb⟩; refine ⟨_, rfl, ?_⟩; have n0_ := Aside0.mk (Kd.R_lower ho0 (below_size (by repeat (first | (with_reducible first | exact HB.out | apply below_alloc | apply pw_below_drewN | apply below_drew1 | refine below_set ?_ GE501.out) | exact HB.out)))); have n1_ := Aside0.mk (blk_below (g := gb501) (o := .cells #[.int .i64 0, .int .u64 0, .int .u64 0, .int .u64 0, .string (⟨#[]⟩ : ByteArray)] 39 (0, 0)) (by (with_reducible repeat (first | refine blk_drewN ?_ _ | refine blk_drew ?_ | refine blk_alloc ?_ _)); exact BK501.out) hb); have n2_ := Aside0.mk (below_step (by repeat (first | (with_reducible first | exact HB.out | apply below_alloc | apply pw_below_drewN | apply below_drew1 | refine below_set ?_ GE501.out) | exact HB.out | exact Below.refl _ _)) hb); clear BK501; clear HB; have HO506 := n0_; have BK501 := n1_; have HB := n2_; clear n0_ n1_ n2_; (try clear hb); (try clear hb2); (try clear hk); (try clear hi); (try clear ho0); obtain ⟨Ao32, co32, eo32⟩ := Kd.R_slice HO506.out; subst eo32; have hcz33_0 : w31.cell? ⟨gb501, 0, none⟩ = some (.int .i64 0) := (blk_cell BK501.out 0).trans rfl; have hcz33_1 : w31.cell? ⟨gb501, 1, none⟩ = some (.int .u64 0) := (blk_cell BK501.out 1).trans rfl; have hcz33_2 : w31.cell? ⟨gb501, 2, none⟩ = some (.int .u64 0) := (blk_cell BK501.out 2).trans rfl; have hcz33_3 : w31.cell? ⟨gb501, 3, none⟩ = some (.int .u64 0) := (blk_cell BK501.out 3).trans rfl; have hcz33_4 : w31.cell? ⟨gb501, 4, none⟩ = some (.string (⟨#[]⟩ : ByteArray)) := (blk_cell BK501.out 4).trans rfl; have hfz33_0 := blk_frozen BK501.out 0; have hfz33_1 := blk_frozen BK501.out 1; have hfz33_2 := blk_frozen BK501.out 2; have hfz33_3 := blk_frozen BK501.out 3; have hfz33_4 := blk_frozen BK501.out 4))
          refine bodyPost_ret (results_ct rfl _ _ gb501 39 #[.int .i64 0, .int .u64 0, .int .u64 0, .int .u64 0, .string (⟨#[]⟩ : ByteArray)] (0, 0) _ rfl (by (with_reducible repeat (first | refine blk_drewN ?_ _ | refine blk_drew ?_ | refine blk_alloc ?_ _)); refine blk_put (cs := #[.int .i64 0, .int .u64 0, .int .u64 0, .int .u64 0, .string (⟨#[]⟩ : ByteArray)]) ?_ 4 _ rfl; (with_reducible repeat (first | refine blk_drewN ?_ _ | refine blk_drew ?_ | refine blk_alloc ?_ _)); refine blk_put (cs := #[.int .i64 0, .int .u64 0, .int .u64 0, .int .u64 0, .string (⟨#[]⟩ : ByteArray)]) ?_ 3 _ rfl; (with_reducible repeat (first | refine blk_drewN ?_ _ | refine blk_drew ?_ | refine blk_alloc ?_ _)); refine blk_put (cs := #[.int .i64 0, .int .u64 0, .int .u64 0, .int .u64 0, .string (⟨#[]⟩ : ByteArray)]) ?_ 2 _ rfl; (with_reducible repeat (first | refine blk_drewN ?_ _ | refine blk_drew ?_ | refine blk_alloc ?_ _)); refine blk_put (cs := #[.int .i64 0, .int .u64 0, .int .u64 0, .int .u64 0, .string (⟨#[]⟩ : ByteArray)]) ?_ 1 _ rfl; (with_reducible repeat (first | refine blk_drewN ?_ _ | refine blk_drew ?_ | refine blk_alloc ?_ _)); refine blk_put (cs := #[.int .i64 0, .int .u64 0, .int .u64 0, .int .u64 0, .string (⟨#[]⟩ : ByteArray)]) ?_ 0 _ rfl; (with_reducible repeat (first | refine blk_drewN ?_ _ | refine blk_drew ?_ | refine blk_alloc ?_ _)); exact BK501.out) Try.underlying39 rfl (by kernel_rfl)) rfl ?_
          exact ⟨by first | rfl | (simp [errW_none, errW_some] <;> rfl) | (simp [*, errW_none, errW_some] <;> rfl), by repeat (first | (with_reducible first | exact HB.out | apply below_alloc | apply pw_below_drewN | apply below_drew1 | refine below_set ?_ GE501.out) | exact HB.out)⟩
      · rw [if_neg c7] at H
        have c7b0 : (t504 == 0) = false := beq_eq_false_iff_ne.mpr c7
        have c7b1 : (t504 != 0) = true := bne_iff_ne.mpr c7
        simp only [Option.some.injEq, Prod.mk.injEq] at H
        obtain ⟨rfl, rfl, rfl, rfl, rfl, rfl⟩ := H
        go_enter Try.func71, Try.ntmps71
        go_wp2_with (first | ((with_reducible refine gate_dst (N := 2) rfl ?_); (try (refine gate_guard (by rfl) ?_; dsimp only)); refine box_event ?hg (N := 2) ?hd (cs := #[.int .i64 0, .int .u64 0, .int .u64 0, .int .u64 0, .string (⟨#[]⟩ : ByteArray)]) (t := 39) ?hr ?_; (case hd => rfl); (case hg => rfl); (case hr => first | (go_simp; done) | (go_simp; rfl)); intro gb501 hg w34 hbox hb; have n0_ := Aside0.mk (below_step (by repeat (first | (with_reducible first | exact HB.out | apply below_alloc | apply pw_below_drewN | apply below_drew1) | exact HB.out | exact Below.refl _ _)) hb); have n1_ := Aside0.mk (hbox); have n2_ := Aside0.mk ((by rw [hg]; exact (below_size (by repeat (first | (with_reducible first | exact HB.out | apply below_alloc | apply pw_below_drewN | apply below_drew1) | exact HB.out))) : w.heap.size ≤ gb501)); have n3_ := Aside0.mk ((by rw [hg]; exact (below_size (by repeat (first | (with_reducible first | exact HB.out | apply below_alloc | apply pw_below_drewN | apply below_drew1) | exact HB.out))) : w.heap.size ≤ gb501)); clear HB; have HB := n0_; have BK501 := n1_; have GW501 := n2_; have GE501 := n3_; clear n0_ n1_ n2_ n3_; clear hb hbox hg) | ((with_reducible refine gate_callee (f := 74) rfl ?_); refine goesL_ (some 16) rfl rfl Try.func74 (by kernel_rfl) rfl #[.string (a0.extract 1 a0.size), .int .i64 3] rfl (by (try simp only [List.map_toArray, List.map_cons, List.map_nil]); first | done | rfl | (simp only [List.length_drop, List.length_take]; rfl)) ?_; (with_reducible refine (ferruleref01_TakeNums.calls k (a0.extract 1 a0.size) 3 t502 t503 t504 _ A6.out).mono ?_); rintro e w35 ⟨v505, rfl, ho0, hb⟩; refine ⟨_, rfl, ?_⟩; have n0_ := Aside0.mk (Kd.R_lower ho0 (below_size (by repeat (first | (with_reducible first | exact HB.out | apply below_alloc | apply pw_below_drewN | apply below_drew1 | refine below_set ?_ GE501.out) | exact HB.out)))); have n1_ := Aside0.mk (blk_below (g := gb501) (o := .cells #[.int .i64 0, .int .u64 0, .int .u64 0, .int .u64 0, .string (⟨#[]⟩ : ByteArray)] 39 (0, 0)) (by (with_reducible repeat (first | refine blk_drewN ?_ _ | refine blk_drew ?_ | refine blk_alloc ?_ _)); exact BK501.out) hb); have n2_ := Aside0.mk (below_step (by repeat (first | (with_reducible first | exact HB.out | apply below_alloc | apply pw_below_drewN | apply below_drew1 | refine below_set ?_ GE501.out) | exact HB.out | exact Below.refl _ _)) hb); clear BK501; clear HB; have HO506 := n0_; have BK501 := n1_; have HB := n2_; clear n0_ n1_ n2_; (try clear hb); (try clear hb2); (try clear hk); (try clear hi); (try clear ho0); have hcz36_0 : w35.cell? ⟨gb501, 0, none⟩ = some (.int .i64 0) := (blk_cell BK501.out 0).trans rfl; have hcz36_1 : w35.cell? ⟨gb501, 1, none⟩ = some (.int .u64 0) := (blk_cell BK501.out 1).trans rfl; have hcz36_2 : w35.cell? ⟨gb501, 2, none⟩ = some (.int .u64 0) := (blk_cell BK501.out 2).trans rfl; have hcz36_3 : w35.cell? ⟨gb501, 3, none⟩ = some (.int .u64 0) := (blk_cell BK501.out 3).trans rfl; have hcz36_4 : w35.cell? ⟨gb501, 4, none⟩ = some (.string (⟨#[]⟩ : ByteArray)) := (blk_cell BK501.out 4).trans rfl; have hfz36_0 := blk_frozen BK501.out 0; have hfz36_1 := blk_frozen BK501.out 1; have hfz36_2 := blk_frozen BK501.out 2; have hfz36_3 := blk_frozen BK501.out 3; have hfz36_4 := blk_frozen BK501.out 4))
        refine bodyPost_ret (results_ct rfl _ _ gb501 39 #[.int .i64 0, .int .u64 0, .int .u64 0, .int .u64 0, .string (⟨#[]⟩ : ByteArray)] (0, 0) _ rfl (by (with_reducible repeat (first | refine blk_drewN ?_ _ | refine blk_drew ?_ | refine blk_alloc ?_ _)); refine blk_put (cs := #[.int .i64 0, .int .u64 0, .int .u64 0, .int .u64 0, .string (⟨#[]⟩ : ByteArray)]) ?_ 4 _ rfl; (with_reducible repeat (first | refine blk_drewN ?_ _ | refine blk_drew ?_ | refine blk_alloc ?_ _)); refine blk_put (cs := #[.int .i64 0, .int .u64 0, .int .u64 0, .int .u64 0, .string (⟨#[]⟩ : ByteArray)]) ?_ 3 _ rfl; (with_reducible repeat (first | refine blk_drewN ?_ _ | refine blk_drew ?_ | refine blk_alloc ?_ _)); refine blk_put (cs := #[.int .i64 0, .int .u64 0, .int .u64 0, .int .u64 0, .string (⟨#[]⟩ : ByteArray)]) ?_ 2 _ rfl; (with_reducible repeat (first | refine blk_drewN ?_ _ | refine blk_drew ?_ | refine blk_alloc ?_ _)); refine blk_put (cs := #[.int .i64 0, .int .u64 0, .int .u64 0, .int .u64 0, .string (⟨#[]⟩ : ByteArray)]) ?_ 1 _ rfl; (with_reducible repeat (first | refine blk_drewN ?_ _ | refine blk_drew ?_ | refine blk_alloc ?_ _)); refine blk_put (cs := #[.int .i64 0, .int .u64 0, .int .u64 0, .int .u64 0, .string (⟨#[]⟩ : ByteArray)]) ?_ 0 _ rfl; (with_reducible repeat (first | refine blk_drewN ?_ _ | refine blk_drew ?_ | refine blk_alloc ?_ _)); exact BK501.out) Try.underlying39 rfl (by kernel_rfl)) rfl ?_
        exact ⟨by first | rfl | (simp [errW_none, errW_some] <;> rfl) | (simp [*, errW_none, errW_some] <;> rfl), by repeat (first | (with_reducible first | exact HB.out | apply below_alloc | apply pw_below_drewN | apply below_drew1 | refine below_set ?_ GE501.out) | exact HB.out)⟩
    · rw [if_neg c5] at H
      exact absurd H (by simp)
end Go.Proofs.Ytfjhlcbpogihmaa.Pr
