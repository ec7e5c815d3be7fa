/- What the program's functions compute, and that they compute it: printed out of the translation by a program of this session's (px.py, over the kit's printer). Conditions: none. -/
import Derived.Test.YtfjhlcbpogihmaaKNoteLasts2
import Derived.Test.YtfjhlcbpogihmaaGNoteLastsPr8
import Derived.Test.YtfjhlcbpogihmaaGNoteLastsRStepA
namespace Go.Proofs.Ytfjhlcbpogihmaa.Pr
open Go.RowKit Go.Proofs.YtfjhlcbpogihmaaW.PrintWords Go.Proofs.YtfjhlcbpogihmaaW.PrintLast Go.Proofs.YtfjhlcbpogihmaaW.PrintMore
attribute [local go_sem] max2_int min2_int max_two min_two max_three min_three max_four min_four
set_option linter.unusedVariables false
set_option linter.unusedSimpArgs false
namespace ShRStepB
theorem am_ {p : Prop} (h : p) : Aside0 p := ⟨h⟩
theorem bx_ {Q P : Prop} (b : Aside0 Q) (h : Q → P := by intro hq_; (with_reducible repeat (first | refine blk_drewN ?_ _ | refine blk_drew ?_ | refine blk_alloc ?_ _)); exact hq_) : P := h b.out
theorem hx_ {Q P : Prop} (b : Aside0 Q) (h : Q → P := by intro hq_; repeat (first | (with_reducible first | exact hq_ | apply below_alloc | apply pw_below_drewN | apply below_drew1 | refine below_set ?_ (Aside0.out (by assumption))) | exact hq_)) : P := h b.out
theorem rx_ {Q P : Prop} (b : Aside0 Q) (h : Q → P := by intro hq_; (with_reducible repeat (first | apply Kd.R_alloc | apply Kd.R_drewN | apply Kd.R_drew)); exact hq_) : P := h b.out
abbrev bN0_ : Array Bool := #[false, false, false, false, false, false, false, false, false, false, false, false, false, false, false, false, false]
abbrev bN1_ : Array Bool := #[true, false, false, false, false, false, false, false, false, false, false, false, false, false, false, false, false]
abbrev bN2_ : Array Bool := #[true, true, false, false, false, false, false, false, false, false, false, false, false, false, false, false, false]
abbrev bN3_ : Array Bool := #[true, true, true, false, false, false, false, false, false, false, false, false, false, false, false, false, false]
abbrev bN4_ : Array Bool := #[true, true, true, true, false, false, false, false, false, false, false, false, false, false, false, false, false]
abbrev bN5_ : Array Bool := #[true, true, true, true, true, false, false, false, false, false, false, false, false, false, false, false, false]
abbrev bN6_ : Array Bool := #[true, true, true, true, true, true, false, false, false, false, false, false, false, false, false, false, false]
abbrev bN7_ : Array Bool := #[true, true, true, true, true, true, true, false, false, false, false, false, false, false, false, false, false]
abbrev bN8_ : Array Bool := #[true, true, true, true, true, true, true, true, false, false, false, false, false, false, false, false, false]
abbrev bN9_ : Array Bool := #[true, true, true, true, true, true, true, true, true, false, false, false, false, false, false, false, false]
abbrev bN10_ : Array Bool := #[true, true, true, true, true, true, true, true, true, true, false, false, false, false, false, false, false]
abbrev bN11_ : Array Bool := #[true, true, true, true, true, true, true, true, true, true, true, false, false, false, false, false, false]
abbrev bN12_ : Array Bool := #[true, true, true, true, true, true, true, true, true, true, true, true, false, false, false, false, false]
abbrev bN13_ : Array Bool := #[true, true, true, true, true, true, true, true, true, true, true, true, true, false, false, false, false]
abbrev bN14_ : Array Bool := #[true, true, true, true, true, true, true, true, true, true, true, true, true, true, false, false, false]
abbrev bN15_ : Array Bool := #[true, true, true, true, true, true, true, true, true, true, true, true, true, true, true, false, false]
abbrev bN16_ : Array Bool := #[true, true, true, true, true, true, true, true, true, true, true, true, true, true, true, true, false]
abbrev bN17_ : Array Bool := #[true, true, true, true, true, true, true, true, true, true, true, true, true, true, true, true, true]
abbrev bN18_ : Array Bool := #[false, false, false, false, false, false, false, false, false, false, false, false, false, false]
abbrev bN19_ : Array Bool := #[false, true, false, false, false, false, false, false, false, false, false, false, false, false]
abbrev bN20_ : Array Bool := #[false, true, false, false, true, false, false, false, false, false, false, false, false, false]
abbrev bN21_ : Array Bool := #[false, true, false, false, true, false, true, false, false, false, false, false, false, false]
abbrev bN22_ : Array Bool := #[false, true, true, false, true, false, true, false, false, false, false, false, false, false]
abbrev bN23_ : Array Bool := #[false, true, true, false, true, true, true, false, false, false, false, false, false, false]
abbrev bN24_ : Array Bool := #[false, true, true, false, true, true, true, true, false, false, false, false, false, false]
abbrev bN25_ : Array Bool := #[false, true, true, false, true, true, true, true, true, false, false, false, false, false]
abbrev bN26_ : Array Bool := #[true, true, true, true, true, true, true, true, true, true, false, false, false, false]
abbrev bN27_ : Array Bool := #[true, true, true, false, true, true, true, true, true, false, false, false, false, false]
abbrev bN28_ : Array Bool := #[false, true, true, false, true, true, true, true, true, true, false, false, false, false]
abbrev bN29_ : Array Bool := #[true, true, true, true, true, true, true, true, true, false, false, false, false, false]
abbrev bN30_ : Array Bool := #[true, true, true, false, true, true, true, true, true, true, false, false, false, false]
abbrev bN31_ : Array Bool := #[true, true, true, true, true, true, true, true, true, true, true, false, false, false]
abbrev bN32_ : Array Bool := #[true, true, true, true, true, true, true, true, true, true, true, true, false, false]
abbrev bN33_ : Array Bool := #[true, true, true, true, true, true, true, true, true, true, true, true, true, false]
abbrev bN34_ : Array Bool := #[true, true, true, true, true, true, true, true, true, true, true, true, true, true]
theorem kx_ {Q P : Prop} (b : Aside0 Q) (h : Q → P := by intro hq_; repeat (first | (with_reducible first | exact hq_ | apply Kept.alloc | apply Kept.drewN | apply Kept.drew | refine Kept.setCell ?_ (.inr (Aside0.out (by assumption))) _) | exact hq_)) : P := h b.out
theorem hy_ {Q P : Prop} (b : Aside0 Q) (h : Q → P := by intro hq_; repeat (first | (with_reducible first | exact hq_ | apply below_alloc | apply pw_below_drewN | apply below_drew1 | refine below_set ?_ (Aside0.out (by assumption))) | exact hq_ | exact Below.refl _ _)) : P := h b.out
theorem bb_ {w w1 w2 : World} {g : Nat} {o : Obj} (b : Aside0 (w.heap[g]? = some o)) (hb : Below w1.heap.size w1 w2) (h : w.heap[g]? = some o → w1.heap[g]? = some o := by intro hq_; (with_reducible repeat (first | refine blk_drewN ?_ _ | refine blk_drew ?_ | refine blk_alloc ?_ _)); exact hq_) : w2.heap[g]? = some o := blk_below (h b.out) hb
theorem bl_ {w w1 : World} {g : Nat} {o : Obj} (b : Aside0 (w.heap[g]? = some o)) (h : w.heap[g]? = some o → w1.heap[g]? = some o := by intro hq_; (with_reducible repeat (first | refine blk_drewN ?_ _ | refine blk_drew ?_ | refine blk_alloc ?_ _)); exact hq_) : g < w1.heap.size := blk_lt (h b.out)
end ShRStepB
open ShRStepB
set_option maxHeartbeats 8000000 in
set_option maxRecDepth 100000 in
theorem ferruleref04_Step.calls_b (k : Nat) (a0_0 : Int) (a0_1 : Int) (a0_2 : Int) (a0_3 : Int) (a0_4 : ByteArray) (P0_5_ : Nat → Prop) (u9000_ : Value) (l0_5 : List (S75)) (a1_0 : Int) (a1_1 : Int) (a1_2 : Int) (a1_3 : Int) (a1_4 : ByteArray) (r1 : Int) (r2 : Int) (r3 : Int) (r4 : Int) (r5 : ByteArray) (r6 : List (S75)) (w0 w : World) (hB : Below w0.heap.size w0 w) (ho0_5 : Kd.R k75 75 w w0.heap.size P0_5_ u9000_ l0_5) (hk2 : a1_0 = 2) (h : ferruleref04_Step.f k a0_0 a0_1 a0_2 a0_3 a0_4 l0_5 a1_0 a1_1 a1_2 a1_3 a1_4 = some (r1, r2, r3, r4, r5, r6)) :
  Calls Try.prog 44 #[.agg #[.int .u64 a0_0, .int .u64 a0_1, .int .u64 a0_2, .int .u64 a0_3, .string a0_4, u9000_], .agg #[.int .i64 a1_0, .int .u64 a1_1, .int .u64 a1_2, .int .u64 a1_3, .string a1_4]] w fun e w' => ∃ v5_ : Value, e = .returned (.agg #[.int .u64 r1, .int .u64 r2, .int .u64 r3, .int .u64 r4, .string r5, v5_]) ∧ Kd.R k75 75 w' w0.heap.size (fun k_ => (P0_5_ k_ ∨ w.heap.size ≤ k_)) v5_ r6 ∧ Below w0.heap.size w0 w' ∧ Kept w w' (fun k_ => P0_5_ k_) := by
 have hu30 := Try.underlying30
 have hu39 := Try.underlying39
 have hu28 := Try.underlying28
 have hu75 := Try.underlying75
 have HO0_5 := am_ (show Kd.R k75 75 w w0.heap.size (fun k_ => (P0_5_ k_ ∨ w.heap.size ≤ k_)) u9000_ l0_5 from Kd.R_mono ho0_5 (fun k_ hk => (.inl hk)))
 have HK := am_ (Kept.refl w (fun k_ => P0_5_ k_))
 have HW0 := am_ hB.size
 have HB := am_ hB
 clear hB
 have H : (if a1_0 = 1 then (some (a1_2, a1_3, a0_2, a0_3, a0_4, l0_5)) else (if a1_0 = 2 then ((ferruleref04_Last.f a0_2 a0_3 a0_4 l0_5).bind fun t129 => (if a1_1 = (IntKind.u64.wrap (t129 + 1)) then (if (l0_5.length : Int) < 1024 then (if a1_1 ≤ 1099511627776 then ((some (([] : List (S75)) : List (S75))).bind fun y130 => (if y130.length + l0_5.length < 5864062014805 then ((some (y130 ++ l0_5 : List (S75))).bind fun y133 => ((some (([(⟨a1_2, a1_4⟩ : S75)] : List (S75)) : List (S75))).bind fun y136 => (if y133.length + y136.length < 5864062014805 then (some (a0_0, a0_1, a0_2, a0_3, a0_4, (y133 ++ y136))) else (none)))) else (none))) else (some (a0_0, a0_1, a0_2, a0_3, a0_4, l0_5))) else (some (a0_0, a0_1, a0_2, a0_3, a0_4, l0_5))) else (some (a0_0, a0_1, a0_2, a0_3, a0_4, l0_5)))) else (if a1_0 = 3 then (ferruleref04_Step.l0 k ([] : List (S75)) 0 a0_0 a0_1 a0_2 a0_3 a0_4 l0_5 a1_0 a1_1 a1_2 a1_3 a1_4 a0_2 a0_3 a0_4 l0_5) else (if a1_0 = 4 then (if a1_1 ≤ a0_2 then (ferruleref04_Step.j1 k true a0_0 a0_1 a0_2 a0_3 a0_4 l0_5 a1_0 a1_1 a1_2 a1_3 a1_4 a0_2 a0_3 a0_4 l0_5) else (ferruleref04_Step.j1 k (decide (a1_1 > 1099511627776)) a0_0 a0_1 a0_2 a0_3 a0_4 l0_5 a1_0 a1_1 a1_2 a1_3 a1_4 a0_2 a0_3 a0_4 l0_5)) else (some (a0_0, a0_1, a0_2, a0_3, a0_4, l0_5)))))) = some (r1, r2, r3, r4, r5, r6) := h
 clear h
 by_cases c3 : a1_0 = 1
 ·exact absurd (hk2.symm.trans c3) (by decide)
 ·rw [if_neg c3] at H
  have c3b0 : (a1_0 == 1) = false := beq_eq_false_iff_ne.mpr c3
  have c3b1 : (a1_0 != 1) = true := bne_iff_ne.mpr c3
  by_cases c20 : a1_0 = 2
  ·rw [if_pos c20] at H
   have c20b0 : (a1_0 == 2) = true := beq_iff_eq.mpr c20
   have c20b1 : (a1_0 != 2) = false := bne_eq_false_iff_eq.mpr c20
   clear c20
   replace H := Option.bind_eq_some_iff.mp H
   obtain ⟨t129, A210, H⟩ := H
   replace H : (if a1_1 = (IntKind.u64.wrap (t129 + 1)) then (if (l0_5.length : Int) < 1024 then (if a1_1 ≤ 1099511627776 then ((some (([] : List (S75)) : List (S75))).bind fun y130 => (if y130.length + l0_5.length < 5864062014805 then ((some (y130 ++ l0_5 : List (S75))).bind fun y133 => ((some (([(⟨a1_2, a1_4⟩ : S75)] : List (S75)) : List (S75))).bind fun y136 => (if y133.length + y136.length < 5864062014805 then (some (a0_0, a0_1, a0_2, a0_3, a0_4, (y133 ++ y136))) else (none)))) else (none))) else (some (a0_0, a0_1, a0_2, a0_3, a0_4, l0_5))) else (some (a0_0, a0_1, a0_2, a0_3, a0_4, l0_5))) else (some (a0_0, a0_1, a0_2, a0_3, a0_4, l0_5))) = some (r1, r2, r3, r4, r5, r6) := H
   have A21 := am_ A210
   clear A210
   by_cases c22 : a1_1 = (IntKind.u64.wrap (t129 + 1))
   ·rw [if_pos c22] at H
    have c22b0 : (a1_1 == (IntKind.u64.wrap (t129 + 1))) = true := beq_iff_eq.mpr c22
    have c22b1 : (a1_1 != (IntKind.u64.wrap (t129 + 1))) = false := bne_eq_false_iff_eq.mpr c22
    clear c22
    by_cases c23 : (l0_5.length : Int) < 1024
    ·rw [if_pos c23] at H
     have c23b0 : decide ((l0_5.length : Int) < 1024) = true := decide_eq_true c23
     have c23b1 : decide (l0_5.length < 1024) = true := decide_eq_true (by omega)
     clear c23
     by_cases c24 : a1_1 ≤ 1099511627776
     ·rw [if_pos c24] at H
      have c24b0 : decide (a1_1 ≤ 1099511627776) = true := decide_eq_true c24
      clear c24
      obtain ⟨y130, hy130⟩ : ∃ y_ : List (S75), y_ = (([] : List (S75))) := ⟨_, rfl⟩
      replace H : (if y130.length + l0_5.length < 5864062014805 then ((some (y130 ++ l0_5 : List (S75))).bind fun y133 => ((some (([(⟨a1_2, a1_4⟩ : S75)] : List (S75)) : List (S75))).bind fun y136 => (if y133.length + y136.length < 5864062014805 then (some (a0_0, a0_1, a0_2, a0_3, a0_4, (y133 ++ y136))) else (none)))) else (none)) = some (r1, r2, r3, r4, r5, r6) := by first | (rw [hy130]; with_reducible exact H) | (have H2_ := (Option.bind_some _ _).symm.trans H; rw [hy130]; with_reducible exact H2_) | (have H2_ := (Option.bind_some _ _).symm.trans H; with_reducible exact H2_) | with_reducible exact H | (rw [hy130]; exact H) | exact H
      have Ny130 := am_ hy130
      clear hy130
      by_cases c25 : y130.length + l0_5.length < 5864062014805
      ·rw [if_pos c25] at H
       have LMc25 := am_ c25
       clear c25
       obtain ⟨y133, hy133⟩ : ∃ y_ : List (S75), y_ = (y130 ++ l0_5) := ⟨_, rfl⟩
       replace H : ((some (([(⟨a1_2, a1_4⟩ : S75)] : List (S75)) : List (S75))).bind fun y136 => (if y133.length + y136.length < 5864062014805 then (some (a0_0, a0_1, a0_2, a0_3, a0_4, (y133 ++ y136))) else (none))) = some (r1, r2, r3, r4, r5, r6) := by first | (rw [hy133]; with_reducible exact H) | (have H2_ := (Option.bind_some _ _).symm.trans H; rw [hy133]; with_reducible exact H2_) | (have H2_ := (Option.bind_some _ _).symm.trans H; with_reducible exact H2_) | with_reducible exact H | (rw [hy133]; exact H) | exact H
       have Ny133 := am_ hy133
       clear hy133
       obtain ⟨y136, hy136⟩ : ∃ y_ : List (S75), y_ = (([(⟨a1_2, a1_4⟩ : S75)] : List (S75))) := ⟨_, rfl⟩
       replace H : (if y133.length + y136.length < 5864062014805 then (some (a0_0, a0_1, a0_2, a0_3, a0_4, (y133 ++ y136))) else (none)) = some (r1, r2, r3, r4, r5, r6) := by first | (rw [hy136]; with_reducible exact H) | (have H2_ := (Option.bind_some _ _).symm.trans H; rw [hy136]; with_reducible exact H2_) | (have H2_ := (Option.bind_some _ _).symm.trans H; with_reducible exact H2_) | with_reducible exact H | (rw [hy136]; exact H) | exact H
       have Ny136 := am_ hy136
       clear hy136
       by_cases c26 : y133.length + y136.length < 5864062014805
       ·rw [if_pos c26] at H
        have LMc26 := am_ c26
        clear c26
        obtain ⟨y139, hy139⟩ : ∃ y_ : List (S75), y_ = (y133 ++ y136) := ⟨_, rfl⟩
        replace H : (some (a0_0, a0_1, a0_2, a0_3, a0_4, y139)) = some (r1, r2, r3, r4, r5, r6) := by first | (rw [hy139]; with_reducible exact H) | (have H2_ := (Option.bind_some _ _).symm.trans H; rw [hy139]; with_reducible exact H2_) | (have H2_ := (Option.bind_some _ _).symm.trans H; with_reducible exact H2_) | with_reducible exact H | (rw [hy139]; exact H) | exact H
        have Ny139 := am_ hy139
        clear hy139
        simp only [Option.some.injEq, Prod.mk.injEq] at H
        obtain ⟨rfl, rfl, rfl, rfl, rfl, rfl⟩ := H
        obtain ⟨Ao27, co27, eo27⟩ := Kd.R_slice HO0_5.out
        subst eo27
        go_enter Try.func44, Try.ntmps44
        try go_wp2_with (first | ((with_reducible refine gate_dst (N := 2) rfl ?_); (try (refine gate_guard (by rfl) ?_; dsimp only)); refine box_event ?hg (N := 2) ?hd (cs := #[.int .u64 a0_0, .int .u64 a0_1, .int .u64 a0_2, .int .u64 a0_3, .string a0_4, .slice Ao27 l0_5.length co27]) (t := 30) ?hr ?_; (case hd => rfl); (case hg => rfl); (case hr => first | (go_simp; done) | (go_simp; rfl)); intro gb125 hg w28 hbox hb; have n0_ := am_ (Kd.R_below (rx_ HO0_5) hb); have n1_ := am_ (Kept.below (S := (fun k_ => P0_5_ k_)) (kx_ HK) hb); have n2_ := am_ (below_step (hy_ HB) hb); have n3_ := am_ (hbox); have n4_ := am_ ((by rw [hg]; exact (by first | exact HK.out.1 | exact (show Kept w _ (fun k_ => P0_5_ k_) from kx_ HK).1) : w.heap.size ≤ gb125)); have n5_ := am_ ((by rw [hg]; exact (below_size (hx_ HB)) : w0.heap.size ≤ gb125)); clear HO0_5 HK HB; have HO0_5 := n0_; have HK := n1_; have HB := n2_; have BK125 := n3_; have GW125 := n4_; have GE125 := n5_; clear n0_ n1_ n2_ n3_ n4_ n5_; clear hb hbox hg) | ((with_reducible refine gate_dst (N := 3) rfl ?_); (try (refine gate_guard (by rfl) ?_; dsimp only)); refine box_event ?hg (N := 3) ?hd (cs := #[.int .i64 a1_0, .int .u64 a1_1, .int .u64 a1_2, .int .u64 a1_3, .string a1_4]) (t := 39) ?hr ?_; (case hd => rfl); (case hg => rfl); (case hr => first | (go_simp; done) | (go_simp; rfl)); intro gb126 hg w29 hbox hb; have n0_ := am_ (Kd.R_below (rx_ HO0_5) hb); have n1_ := am_ (bb_ BK125 hb); have n2_ := am_ (Kept.below (S := (fun k_ => P0_5_ k_)) (kx_ HK) hb); have n3_ := am_ (below_step (hy_ HB) hb); have n4_ := am_ (hbox); have n5_ := am_ ((by rw [hg]; exact (by first | exact HK.out.1 | exact (show Kept w _ (fun k_ => P0_5_ k_) from kx_ HK).1) : w.heap.size ≤ gb126)); have n6_ := am_ ((by rw [hg]; exact (below_size (hx_ HB)) : w0.heap.size ≤ gb126)); have n7_ := am_ ((by rw [hg]; exact Nat.ne_of_lt (bl_ BK125) : gb125 ≠ gb126)); have n8_ := am_ ((by rw [hg]; exact Nat.ne_of_gt (bl_ BK125) : gb126 ≠ gb125)); clear HO0_5 BK125 HK HB; have HO0_5 := n0_; have BK125 := n1_; have HK := n2_; have HB := n3_; have BK126 := n4_; have GW126 := n5_; have GE126 := n6_; have NB125_126 := n7_; have NB126_125 := n8_; clear n0_ n1_ n2_ n3_ n4_ n5_ n6_ n7_ n8_; clear hb hbox hg) | ((with_reducible refine gate_dst (N := 4) rfl ?_); (try (refine gate_guard (by rfl) ?_; dsimp only)); refine box_event ?hg (N := 4) ?hd (cs := #[.int .u64 0, .int .u64 0, .int .u64 0, .int .u64 0, .string (⟨#[]⟩ : ByteArray), .slice none 0 0]) (t := 30) ?hr ?_; (case hd => rfl); (case hg => rfl); (case hr => first | (go_simp; done) | (go_simp; rfl)); intro gb127 hg w30 hbox hb; have n0_ := am_ (Kd.R_below (rx_ HO0_5) hb); have n1_ := am_ (bb_ BK125 hb); have n2_ := am_ (bb_ BK126 hb); have n3_ := am_ (Kept.below (S := (fun k_ => P0_5_ k_)) (kx_ HK) hb); have n4_ := am_ (below_step (hy_ HB) hb); have n5_ := am_ (hbox); have n6_ := am_ ((by rw [hg]; exact (by first | exact HK.out.1 | exact (show Kept w _ (fun k_ => P0_5_ k_) from kx_ HK).1) : w.heap.size ≤ gb127)); have n7_ := am_ ((by rw [hg]; exact (below_size (hx_ HB)) : w0.heap.size ≤ gb127)); have n8_ := am_ ((by rw [hg]; exact Nat.ne_of_lt (bl_ BK125) : gb125 ≠ gb127)); have n9_ := am_ ((by rw [hg]; exact Nat.ne_of_gt (bl_ BK125) : gb127 ≠ gb125)); have n10_ := am_ ((by rw [hg]; exact Nat.ne_of_lt (bl_ BK126) : gb126 ≠ gb127)); have n11_ := am_ ((by rw [hg]; exact Nat.ne_of_gt (bl_ BK126) : gb127 ≠ gb126)); clear HO0_5 BK125 BK126 HK HB; have HO0_5 := n0_; have BK125 := n1_; have BK126 := n2_; have HK := n3_; have HB := n4_; have BK127 := n5_; have GW127 := n6_; have GE127 := n7_; have NB125_127 := n8_; have NB127_125 := n9_; have NB126_127 := n10_; have NB127_126 := n11_; clear n0_ n1_ n2_ n3_ n4_ n5_ n6_ n7_ n8_ n9_ n10_ n11_; clear hb hbox hg; have hnb31 := NB125_126.out; have hnc31 := NB126_125.out; have hnb32 := NB125_127.out; have hnc32 := NB127_125.out; have hcz33_0 : w30.cell? ⟨gb125, 0, none⟩ = some (.int .u64 a0_0) := (blk_cell BK125.out 0).trans rfl; have hcz33_1 : w30.cell? ⟨gb125, 1, none⟩ = some (.int .u64 a0_1) := (blk_cell BK125.out 1).trans rfl; have hcz33_2 : w30.cell? ⟨gb125, 2, none⟩ = some (.int .u64 a0_2) := (blk_cell BK125.out 2).trans rfl; have hcz33_3 : w30.cell? ⟨gb125, 3, none⟩ = some (.int .u64 a0_3) := (blk_cell BK125.out 3).trans rfl; have hcz33_4 : w30.cell? ⟨gb125, 4, none⟩ = some (.string a0_4) := (blk_cell BK125.out 4).trans rfl; have hcz33_5 : w30.cell? ⟨gb125, 5, none⟩ = some (.slice Ao27 l0_5.length co27) := (blk_cell BK125.out 5).trans rfl; have hfz33_0 := blk_frozen BK125.out 0; have hfz33_1 := blk_frozen BK125.out 1; have hfz33_2 := blk_frozen BK125.out 2; have hfz33_3 := blk_frozen BK125.out 3; have hfz33_4 := blk_frozen BK125.out 4; have hfz33_5 := blk_frozen BK125.out 5) | ((with_reducible refine gate_dst (N := 5) rfl ?_); (try (refine gate_guard (by rfl) ?_; dsimp only)); refine box_event ?hg (N := 5) ?hd (cs := #[.int .u64 0, .int .u64 0, .string (⟨#[]⟩ : ByteArray), .slice none 0 0]) (t := 28) ?hr ?_; (case hd => rfl); (case hg => rfl); (case hr => first | (go_simp; done) | (go_simp; rfl)); intro gb128 hg w34 hbox hb; have n0_ := am_ (Kd.R_below (rx_ HO0_5) hb); have n1_ := am_ (bb_ BK125 hb); have n2_ := am_ (bb_ BK126 hb); have n3_ := am_ (bb_ BK127 hb); have n4_ := am_ (Kept.below (S := (fun k_ => P0_5_ k_)) (kx_ HK) hb); have n5_ := am_ (below_step (hy_ HB) hb); have n6_ := am_ (hbox); have n7_ := am_ ((by rw [hg]; exact (by first | exact HK.out.1 | exact (show Kept w _ (fun k_ => P0_5_ k_) from kx_ HK).1) : w.heap.size ≤ gb128)); have n8_ := am_ ((by rw [hg]; exact (below_size (hx_ HB)) : w0.heap.size ≤ gb128)); have n9_ := am_ ((by rw [hg]; exact Nat.ne_of_lt (bl_ BK125) : gb125 ≠ gb128)); have n10_ := am_ ((by rw [hg]; exact Nat.ne_of_gt (bl_ BK125) : gb128 ≠ gb125)); have n11_ := am_ ((by rw [hg]; exact Nat.ne_of_lt (bl_ BK126) : gb126 ≠ gb128)); have n12_ := am_ ((by rw [hg]; exact Nat.ne_of_gt (bl_ BK126) : gb128 ≠ gb126)); have n13_ := am_ ((by rw [hg]; exact Nat.ne_of_lt (bl_ BK127) : gb127 ≠ gb128)); have n14_ := am_ ((by rw [hg]; exact Nat.ne_of_gt (bl_ BK127) : gb128 ≠ gb127)); clear HO0_5 BK125 BK126 BK127 HK HB; have HO0_5 := n0_; have BK125 := n1_; have BK126 := n2_; have BK127 := n3_; have HK := n4_; have HB := n5_; have BK128 := n6_; have GW128 := n7_; have GE128 := n8_; have NB125_128 := n9_; have NB128_125 := n10_; have NB126_128 := n11_; have NB128_126 := n12_; have NB127_128 := n13_; have NB128_127 := n14_; clear n0_ n1_ n2_ n3_ n4_ n5_ n6_ n7_ n8_ n9_ n10_ n11_ n12_ n13_ n14_; clear hb hbox hg; have hnb35 := NB128_125.out; have hnc35 := NB125_128.out; have hnb36 := NB128_126.out; have hnc36 := NB126_128.out; have hnb37 := NB128_127.out; have hnc37 := NB127_128.out; have hcz38_0 : w34.cell? ⟨gb128, 0, none⟩ = some (.int .u64 0) := (blk_cell BK128.out 0).trans rfl; have hcz38_1 : w34.cell? ⟨gb128, 1, none⟩ = some (.int .u64 0) := (blk_cell BK128.out 1).trans rfl; have hcz38_2 : w34.cell? ⟨gb128, 2, none⟩ = some (.string (⟨#[]⟩ : ByteArray)) := (blk_cell BK128.out 2).trans rfl; have hcz38_3 : w34.cell? ⟨gb128, 3, none⟩ = some (.slice none 0 0) := (blk_cell BK128.out 3).trans rfl; have hfz38_0 := blk_frozen BK128.out 0; have hfz38_1 := blk_frozen BK128.out 1; have hfz38_2 := blk_frozen BK128.out 2; have hfz38_3 := blk_frozen BK128.out 3; have hnb39 := NB126_127.out; have hnc39 := NB127_126.out; have hcz40_0 : w34.cell? ⟨gb126, 0, none⟩ = some (.int .i64 a1_0) := (blk_cell BK126.out 0).trans rfl; have hcz40_1 : w34.cell? ⟨gb126, 1, none⟩ = some (.int .u64 a1_1) := (blk_cell BK126.out 1).trans rfl; have hcz40_2 : w34.cell? ⟨gb126, 2, none⟩ = some (.int .u64 a1_2) := (blk_cell BK126.out 2).trans rfl; have hcz40_3 : w34.cell? ⟨gb126, 3, none⟩ = some (.int .u64 a1_3) := (blk_cell BK126.out 3).trans rfl; have hcz40_4 : w34.cell? ⟨gb126, 4, none⟩ = some (.string a1_4) := (blk_cell BK126.out 4).trans rfl; have hfz40_0 := blk_frozen BK126.out 0; have hfz40_1 := blk_frozen BK126.out 1; have hfz40_2 := blk_frozen BK126.out 2; have hfz40_3 := blk_frozen BK126.out 3; have hfz40_4 := blk_frozen BK126.out 4))
        have n0_ : Aside0 (Kd.R k75 75 ((((w34.setCell ⟨gb128, 0, none⟩ (.int .u64 a0_2)).setCell ⟨gb128, 1, none⟩ (.int .u64 a0_3)).setCell ⟨gb128, 2, none⟩ (.string a0_4)).setCell ⟨gb128, 3, none⟩ (.slice Ao27 l0_5.length co27)) w0.heap.size (fun k_ => (P0_5_ k_ ∨ w.heap.size ≤ k_)) (.slice Ao27 l0_5.length co27) l0_5) := ⟨by (with_reducible repeat (first | apply Kd.R_alloc | apply Kd.R_drewN | apply Kd.R_drew)); exact Kd.R_mono (Kd.R_far (p := ⟨gb128, 3, none⟩) (Kd.R_far (p := ⟨gb128, 2, none⟩) (Kd.R_far (p := ⟨gb128, 1, none⟩) (Kd.R_far (p := ⟨gb128, 0, none⟩) (Kd.R_types HO0_5.out BK128.out (by decide)) (fun _ hk => hk.2) (.int .u64 a0_2)) (fun _ hk => hk.2) (.int .u64 a0_3)) (fun _ hk => hk.2) (.string a0_4)) (fun _ hk => hk.2) (.slice Ao27 l0_5.length co27)) (fun _ hk => hk.1)⟩
        have n1_ : Aside0 (((((w34.setCell ⟨gb128, 0, none⟩ (.int .u64 a0_2)).setCell ⟨gb128, 1, none⟩ (.int .u64 a0_3)).setCell ⟨gb128, 2, none⟩ (.string a0_4)).setCell ⟨gb128, 3, none⟩ (.slice Ao27 l0_5.length co27)).heap[gb125]? = some (.cells #[.int .u64 a0_0, .int .u64 a0_1, .int .u64 a0_2, .int .u64 a0_3, .string a0_4, .slice Ao27 l0_5.length co27] 30 (0, 0))) := ⟨by (with_reducible repeat (first | refine blk_drewN ?_ _ | refine blk_drew ?_ | refine blk_alloc ?_ _)); refine blk_far ?_ NB125_128.out _; (with_reducible repeat (first | refine blk_drewN ?_ _ | refine blk_drew ?_ | refine blk_alloc ?_ _)); refine blk_far ?_ NB125_128.out _; (with_reducible repeat (first | refine blk_drewN ?_ _ | refine blk_drew ?_ | refine blk_alloc ?_ _)); refine blk_far ?_ NB125_128.out _; (with_reducible repeat (first | refine blk_drewN ?_ _ | refine blk_drew ?_ | refine blk_alloc ?_ _)); refine blk_far ?_ NB125_128.out _; (with_reducible repeat (first | refine blk_drewN ?_ _ | refine blk_drew ?_ | refine blk_alloc ?_ _)); exact BK125.out⟩
        have n2_ : Aside0 (((((w34.setCell ⟨gb128, 0, none⟩ (.int .u64 a0_2)).setCell ⟨gb128, 1, none⟩ (.int .u64 a0_3)).setCell ⟨gb128, 2, none⟩ (.string a0_4)).setCell ⟨gb128, 3, none⟩ (.slice Ao27 l0_5.length co27)).heap[gb126]? = some (.cells #[.int .i64 a1_0, .int .u64 a1_1, .int .u64 a1_2, .int .u64 a1_3, .string a1_4] 39 (0, 0))) := ⟨by (with_reducible repeat (first | refine blk_drewN ?_ _ | refine blk_drew ?_ | refine blk_alloc ?_ _)); refine blk_far ?_ NB126_128.out _; (with_reducible repeat (first | refine blk_drewN ?_ _ | refine blk_drew ?_ | refine blk_alloc ?_ _)); refine blk_far ?_ NB126_128.out _; (with_reducible repeat (first | refine blk_drewN ?_ _ | refine blk_drew ?_ | refine blk_alloc ?_ _)); refine blk_far ?_ NB126_128.out _; (with_reducible repeat (first | refine blk_drewN ?_ _ | refine blk_drew ?_ | refine blk_alloc ?_ _)); refine blk_far ?_ NB126_128.out _; (with_reducible repeat (first | refine blk_drewN ?_ _ | refine blk_drew ?_ | refine blk_alloc ?_ _)); exact BK126.out⟩
        have n3_ : Aside0 (((((w34.setCell ⟨gb128, 0, none⟩ (.int .u64 a0_2)).setCell ⟨gb128, 1, none⟩ (.int .u64 a0_3)).setCell ⟨gb128, 2, none⟩ (.string a0_4)).setCell ⟨gb128, 3, none⟩ (.slice Ao27 l0_5.length co27)).heap[gb127]? = some (.cells #[.int .u64 0, .int .u64 0, .int .u64 0, .int .u64 0, .string (⟨#[]⟩ : ByteArray), .slice none 0 0] 30 (0, 0))) := ⟨by (with_reducible repeat (first | refine blk_drewN ?_ _ | refine blk_drew ?_ | refine blk_alloc ?_ _)); refine blk_far ?_ NB127_128.out _; (with_reducible repeat (first | refine blk_drewN ?_ _ | refine blk_drew ?_ | refine blk_alloc ?_ _)); refine blk_far ?_ NB127_128.out _; (with_reducible repeat (first | refine blk_drewN ?_ _ | refine blk_drew ?_ | refine blk_alloc ?_ _)); refine blk_far ?_ NB127_128.out _; (with_reducible repeat (first | refine blk_drewN ?_ _ | refine blk_drew ?_ | refine blk_alloc ?_ _)); refine blk_far ?_ NB127_128.out _; (with_reducible repeat (first | refine blk_drewN ?_ _ | refine blk_drew ?_ | refine blk_alloc ?_ _)); exact BK127.out⟩
        have n4_ : Aside0 (((((w34.setCell ⟨gb128, 0, none⟩ (.int .u64 a0_2)).setCell ⟨gb128, 1, none⟩ (.int .u64 a0_3)).setCell ⟨gb128, 2, none⟩ (.string a0_4)).setCell ⟨gb128, 3, none⟩ (.slice Ao27 l0_5.length co27)).heap[gb128]? = some (.cells #[.int .u64 a0_2, .int .u64 a0_3, .string a0_4, .slice Ao27 l0_5.length co27] 28 (0, 0))) := ⟨by (with_reducible repeat (first | refine blk_drewN ?_ _ | refine blk_drew ?_ | refine blk_alloc ?_ _)); refine blk_put (cs := #[.int .u64 a0_2, .int .u64 a0_3, .string a0_4, .slice none 0 0]) ?_ 3 _ rfl; (with_reducible repeat (first | refine blk_drewN ?_ _ | refine blk_drew ?_ | refine blk_alloc ?_ _)); refine blk_put (cs := #[.int .u64 a0_2, .int .u64 a0_3, .string (⟨#[]⟩ : ByteArray), .slice none 0 0]) ?_ 2 _ rfl; (with_reducible repeat (first | refine blk_drewN ?_ _ | refine blk_drew ?_ | refine blk_alloc ?_ _)); refine blk_put (cs := #[.int .u64 a0_2, .int .u64 0, .string (⟨#[]⟩ : ByteArray), .slice none 0 0]) ?_ 1 _ rfl; (with_reducible repeat (first | refine blk_drewN ?_ _ | refine blk_drew ?_ | refine blk_alloc ?_ _)); refine blk_put (cs := #[.int .u64 0, .int .u64 0, .string (⟨#[]⟩ : ByteArray), .slice none 0 0]) ?_ 0 _ rfl; (with_reducible repeat (first | refine blk_drewN ?_ _ | refine blk_drew ?_ | refine blk_alloc ?_ _)); exact BK128.out⟩
        have n5_ : Aside0 (Kept w ((((w34.setCell ⟨gb128, 0, none⟩ (.int .u64 a0_2)).setCell ⟨gb128, 1, none⟩ (.int .u64 a0_3)).setCell ⟨gb128, 2, none⟩ (.string a0_4)).setCell ⟨gb128, 3, none⟩ (.slice Ao27 l0_5.length co27)) (fun k_ => P0_5_ k_)) := ⟨kx_ HK⟩
        have n6_ : Aside0 (Below w0.heap.size w0 ((((w34.setCell ⟨gb128, 0, none⟩ (.int .u64 a0_2)).setCell ⟨gb128, 1, none⟩ (.int .u64 a0_3)).setCell ⟨gb128, 2, none⟩ (.string a0_4)).setCell ⟨gb128, 3, none⟩ (.slice Ao27 l0_5.length co27))) := ⟨hx_ HB⟩
        (try clear HO0_5)
        (try clear BK125)
        (try clear BK126)
        (try clear BK127)
        (try clear BK128)
        (try clear HK)
        (try clear HB)
        generalize ((((w34.setCell ⟨gb128, 0, none⟩ (.int .u64 a0_2)).setCell ⟨gb128, 1, none⟩ (.int .u64 a0_3)).setCell ⟨gb128, 2, none⟩ (.string a0_4)).setCell ⟨gb128, 3, none⟩ (.slice Ao27 l0_5.length co27)) = w41 at n0_ n1_ n2_ n3_ n4_ n5_ n6_ ⊢
        have HO0_5 := n0_
        have BK125 := n1_
        have BK126 := n2_
        have BK127 := n3_
        have BK128 := n4_
        have HK := n5_
        have HB := n6_
        clear n0_ n1_ n2_ n3_ n4_ n5_ n6_
        have n0_ := am_ (Kd.R_drew HO0_5.out)
        have n1_ := am_ (blk_drew BK125.out)
        have n2_ := am_ (blk_drew BK126.out)
        have n3_ := am_ (blk_drew BK127.out)
        have n4_ := am_ (blk_drew BK128.out)
        have n5_ := am_ (Kept.drew HK.out)
        have n6_ := am_ (below_drew1 HB.out)
        clear HO0_5
        clear BK125
        clear BK126
        clear BK127
        clear BK128
        clear HK
        clear HB
        have HO0_5 := n0_
        have BK125 := n1_
        have BK126 := n2_
        have BK127 := n3_
        have BK128 := n4_
        have HK := n5_
        have HB := n6_
        clear n0_ n1_ n2_ n3_ n4_ n5_ n6_
        refine start_ (n := 17) (S := fun w' => w'.cell? ⟨gb126, 0, none⟩ = some (.int .i64 a1_0) ∧ w'.cell? ⟨gb126, 1, none⟩ = some (.int .u64 a1_1) ∧ w'.cell? ⟨gb126, 2, none⟩ = some (.int .u64 a1_2) ∧ w'.cell? ⟨gb126, 3, none⟩ = some (.int .u64 a1_3) ∧ w'.cell? ⟨gb126, 4, none⟩ = some (.string a1_4) ∧ w'.cell? ⟨gb128, 0, none⟩ = some (.int .u64 a0_2) ∧ w'.cell? ⟨gb128, 1, none⟩ = some (.int .u64 a0_3) ∧ w'.cell? ⟨gb128, 2, none⟩ = some (.string a0_4) ∧ w'.cell? ⟨gb128, 3, none⟩ = some (.slice Ao27 l0_5.length co27)) (ds := []) bN0_ (by kernel_rfl) rfl rfl ⟨(blk_cell BK126.out 0).trans rfl, (blk_cell BK126.out 1).trans rfl, (blk_cell BK126.out 2).trans rfl, (blk_cell BK126.out 3).trans rfl, (blk_cell BK126.out 4).trans rfl, (blk_cell BK128.out 0).trans rfl, (blk_cell BK128.out 1).trans rfl, (blk_cell BK128.out 2).trans rfl, (blk_cell BK128.out 3).trans rfl⟩ (fun hHeld => ?_); refine with_tabW ferruleref04_Step.tab7 ferruleref04_Step.bits7 (fun HT_ HW_ => ?_)
        generalize w41.drew = w42 at HO0_5 BK125 BK126 BK127 BK128 HK HB hHeld ⊢
        refine pure_ (i := 0) (N := some 26) (v := ?_) (a' := ?_) bN1_ rfl rfl (any_of HT_.out (by kernel_rfl)) (fun _ _ _ h => h) (Or.inl ⟨by rfl, ?_⟩) ?_ ?_; rotate_left; (intro w'; go_simp; with_reducible rfl); rotate_left; (simp only [Act.put, List.setIfInBounds_toArray, List.set_cons_zero, List.set_cons_succ, i64_w, i32_w]; rfl)
        refine take_ (i := 1) (N := some 27) (v := ?_) (a' := ?_) bN2_ rfl rfl (take_ofW HT_.out HW_.out (by kernel_rfl)) (fun _ _ _ h => h) (Or.inl ⟨by rfl, ?_⟩) hHeld ?_ ?_; rotate_left; (rintro w' ⟨s0, s1, s2, s3, s4, s5, s6, s7, s8⟩; go_simp; with_reducible rfl); rotate_left; (simp only [Act.put, List.setIfInBounds_toArray, List.set_cons_zero, List.set_cons_succ, i64_w, i32_w]; rfl)
        refine take_ (i := 2) (N := some 28) (v := ?_) (a' := ?_) bN3_ rfl rfl (take_ofW HT_.out HW_.out (by kernel_rfl)) (fun _ _ _ h => h) (Or.inl ⟨by rfl, ?_⟩) hHeld ?_ ?_; rotate_left; (rintro w' ⟨s0, s1, s2, s3, s4, s5, s6, s7, s8⟩; go_simp; with_reducible rfl); rotate_left; (simp only [Act.put, List.setIfInBounds_toArray, List.set_cons_zero, List.set_cons_succ, i64_w, i32_w]; rfl)
        refine one_ (i := 3) (N := some 29) bN4_ rfl rfl (one_of HT_.out (by kernel_rfl)) (by decide) (fun K hK => ?_)
        refine goes_ Try.func54 (by kernel_rfl) rfl #[.agg #[.int .u64 a0_2, .int .u64 a0_3, .string a0_4, .slice Ao27 l0_5.length co27]] (by rfl) rfl rfl (by (try simp only [List.map_toArray, List.map_cons, List.map_nil]); first | done | rfl | (simp only [List.length_drop, List.length_take]; rfl)) ?_
        with_reducible refine (ferruleref04_Last.calls a0_2 a0_3 a0_4 _ _ l0_5 t129 _ ?side1 ?side2 A21.out).mono ?_
        (case side1 => repeat (first | exact (Kd.R_reads' HO0_5.out).2.2 | (with_reducible refine Kd.C_alloc ?_ _) | (with_reducible refine Kd.C_drewN ?_ _) | (with_reducible refine Kd.C_drew ?_)))
        (case side2 => exact (Kd.R_reads' HO0_5.out).2.1)
        rintro e w43 ⟨rfl, hb⟩
        refine ⟨_, rfl, ?_⟩
        have n0_ := am_ (Kd.R_below (rx_ HO0_5) hb)
        have n1_ := am_ (bb_ BK125 hb)
        have n2_ := am_ (bb_ BK126 hb)
        have n3_ := am_ (bb_ BK127 hb)
        have n4_ := am_ (bb_ BK128 hb)
        have n5_ := am_ (Kept.below (S := (fun k_ => P0_5_ k_)) (kx_ HK) hb)
        have n6_ := am_ (below_step (hy_ HB) hb)
        clear HO0_5
        clear BK125
        clear BK126
        clear BK127
        clear BK128
        clear HK
        clear HB
        have HO0_5 := n0_
        have BK125 := n1_
        have BK126 := n2_
        have BK127 := n3_
        have BK128 := n4_
        have HK := n5_
        have HB := n6_
        clear n0_ n1_ n2_ n3_ n4_ n5_ n6_
        (try clear hb)
        (try clear hb2)
        (try clear hk)
        (try clear hi)
        refine hK.out _ _ ⟨(blk_cell BK126.out 0).trans rfl, (blk_cell BK126.out 1).trans rfl, (blk_cell BK126.out 2).trans rfl, (blk_cell BK126.out 3).trans rfl, (blk_cell BK126.out 4).trans rfl, (blk_cell BK128.out 0).trans rfl, (blk_cell BK128.out 1).trans rfl, (blk_cell BK128.out 2).trans rfl, (blk_cell BK128.out 3).trans rfl⟩ (fun hHeld => ?_)
        clear hK K
        refine norm_ (a' := ?_) ?_ ?_
        rotate_left
        ·show Act.put _ (some 29) _ = _
         simp only [Act.put, List.setIfInBounds_toArray, List.set_cons_zero, List.set_cons_succ, i64_w, i32_w]
         rfl
        refine pure_ (i := 4) (N := some 30) (v := ?_) (a' := ?_) bN5_ rfl rfl (any_of HT_.out (by kernel_rfl)) (fun _ _ _ h => h) (Or.inl ⟨by rfl, ?_⟩) ?_ ?_; rotate_left; (intro w'; go_simp; with_reducible rfl); rotate_left; (simp only [Act.put, List.setIfInBounds_toArray, List.set_cons_zero, List.set_cons_succ, i64_w, i32_w]; rfl)
        refine pure_ (i := 5) (N := some 31) (v := ?_) (a' := ?_) bN6_ rfl rfl (any_of HT_.out (by kernel_rfl)) (fun _ _ _ h => h) (Or.inl ⟨by rfl, ?_⟩) ?_ ?_; rotate_left; (intro w'; go_simp; with_reducible rfl); rotate_left; (simp only [Act.put, List.setIfInBounds_toArray, List.set_cons_zero, List.set_cons_succ, i64_w, i32_w]; rfl)
        refine pure_ (i := 6) (N := some 32) (v := ?_) (a' := ?_) bN7_ rfl rfl (any_of HT_.out (by kernel_rfl)) (fun _ _ _ h => h) (Or.inl ⟨by rfl, ?_⟩) ?_ ?_; rotate_left; (intro w'; go_simp; with_reducible rfl); rotate_left; (simp only [Act.put, List.setIfInBounds_toArray, List.set_cons_zero, List.set_cons_succ, i64_w, i32_w]; rfl)
        refine pure_ (i := 7) (N := some 33) (v := ?_) (a' := ?_) bN8_ rfl rfl (any_of HT_.out (by kernel_rfl)) (fun _ _ _ h => h) (Or.inl ⟨by rfl, ?_⟩) ?_ ?_; rotate_left; (intro w'; go_simp; with_reducible rfl); rotate_left; (simp only [Act.put, List.setIfInBounds_toArray, List.set_cons_zero, List.set_cons_succ, i64_w, i32_w]; rfl)
        refine take_ (i := 8) (N := some 34) (v := ?_) (a' := ?_) bN9_ rfl rfl (take_ofW HT_.out HW_.out (by kernel_rfl)) (fun _ _ _ h => h) (Or.inl ⟨by rfl, ?_⟩) hHeld ?_ ?_; rotate_left; (rintro w' ⟨s0, s1, s2, s3, s4, s5, s6, s7, s8⟩; go_simp; with_reducible rfl); rotate_left; (simp only [Act.put, List.setIfInBounds_toArray, List.set_cons_zero, List.set_cons_succ, i64_w, i32_w]; rfl)
        refine pure_ (i := 9) (N := some 35) (v := ?_) (a' := ?_) bN10_ rfl rfl (any_of HT_.out (by kernel_rfl)) (fun _ _ _ h => h) (Or.inl ⟨by rfl, ?_⟩) ?_ ?_; rotate_left; (intro w'; go_simp; with_reducible rfl); rotate_left; (simp only [Act.put, List.setIfInBounds_toArray, List.set_cons_zero, List.set_cons_succ, i64_w, i32_w]; rfl)
        refine pure_ (i := 10) (N := some 36) (v := ?_) (a' := ?_) bN11_ rfl rfl (any_of HT_.out (by kernel_rfl)) (fun _ _ _ h => h) (Or.inl ⟨by rfl, ?_⟩) ?_ ?_; rotate_left; (intro w'; go_simp; with_reducible rfl); rotate_left; (simp only [Act.put, List.setIfInBounds_toArray, List.set_cons_zero, List.set_cons_succ, i64_w, i32_w]; rfl)
        refine pure_ (i := 11) (N := some 37) (v := ?_) (a' := ?_) bN12_ rfl rfl (any_of HT_.out (by kernel_rfl)) (fun _ _ _ h => h) (Or.inl ⟨by rfl, ?_⟩) ?_ ?_; rotate_left; (intro w'; go_simp; with_reducible rfl); rotate_left; (simp only [Act.put, List.setIfInBounds_toArray, List.set_cons_zero, List.set_cons_succ, i64_w, i32_w]; rfl)
        refine pure_ (i := 12) (N := some 38) (v := ?_) (a' := ?_) bN13_ rfl rfl (any_of HT_.out (by kernel_rfl)) (fun _ _ _ h => h) (Or.inl ⟨by rfl, ?_⟩) ?_ ?_; rotate_left; (intro w'; go_simp; with_reducible rfl); rotate_left; (simp only [Act.put, List.setIfInBounds_toArray, List.set_cons_zero, List.set_cons_succ, i64_w, i32_w]; rfl)
        refine pure_ (i := 13) (N := some 39) (v := ?_) (a' := ?_) bN14_ rfl rfl (any_of HT_.out (by kernel_rfl)) (fun _ _ _ h => h) (Or.inl ⟨by rfl, ?_⟩) ?_ ?_; rotate_left; (intro w'; go_simp; with_reducible rfl); rotate_left; (simp only [Act.put, List.setIfInBounds_toArray, List.set_cons_zero, List.set_cons_succ, i64_w, i32_w]; rfl)
        refine take_ (i := 14) (N := some 40) (v := ?_) (a' := ?_) bN15_ rfl rfl (take_ofW HT_.out HW_.out (by kernel_rfl)) (fun _ _ _ h => h) (Or.inl ⟨by rfl, ?_⟩) hHeld ?_ ?_; rotate_left; (rintro w' ⟨s0, s1, s2, s3, s4, s5, s6, s7, s8⟩; go_simp; with_reducible rfl); rotate_left; (simp only [Act.put, List.setIfInBounds_toArray, List.set_cons_zero, List.set_cons_succ, i64_w, i32_w]; rfl)
        refine pure_ (i := 15) (N := some 41) (v := ?_) (a' := ?_) bN16_ rfl rfl (any_of HT_.out (by kernel_rfl)) (fun _ _ _ h => h) (Or.inl ⟨by rfl, ?_⟩) ?_ ?_; rotate_left; (intro w'; go_simp; with_reducible rfl); rotate_left; (simp only [Act.put, List.setIfInBounds_toArray, List.set_cons_zero, List.set_cons_succ, i64_w, i32_w]; rfl)
        refine pure_ (i := 16) (N := some 42) (v := ?_) (a' := ?_) bN17_ rfl rfl (any_of HT_.out (by kernel_rfl)) (fun _ _ _ h => h) (Or.inl ⟨by rfl, ?_⟩) ?_ ?_; rotate_left; (intro w'; go_simp; with_reducible rfl); rotate_left; (simp only [Act.put, List.setIfInBounds_toArray, List.set_cons_zero, List.set_cons_succ, i64_w, i32_w]; rfl)
        refine done_ (done_of HT_.out (by kernel_rfl)) ?_
        try go_wp2
        have n0_ := am_ (Kd.R_drew HO0_5.out)
        have n1_ := am_ (blk_drew BK125.out)
        have n2_ := am_ (blk_drew BK126.out)
        have n3_ := am_ (blk_drew BK127.out)
        have n4_ := am_ (blk_drew BK128.out)
        have n5_ := am_ (Kept.drew HK.out)
        have n6_ := am_ (below_drew1 HB.out)
        clear HO0_5
        clear BK125
        clear BK126
        clear BK127
        clear BK128
        clear HK
        clear HB
        have HO0_5 := n0_
        have BK125 := n1_
        have BK126 := n2_
        have BK127 := n3_
        have BK128 := n4_
        have HK := n5_
        have HB := n6_
        clear n0_ n1_ n2_ n3_ n4_ n5_ n6_
        refine start_ (n := 14) (S := fun w' => w'.cell? ⟨gb128, 0, none⟩ = some (.int .u64 a0_2) ∧ w'.cell? ⟨gb128, 1, none⟩ = some (.int .u64 a0_3) ∧ w'.cell? ⟨gb128, 2, none⟩ = some (.string a0_4) ∧ w'.cell? ⟨gb128, 3, none⟩ = some (.slice Ao27 l0_5.length co27) ∧ w'.cell? ⟨gb126, 0, none⟩ = some (.int .i64 a1_0) ∧ w'.cell? ⟨gb126, 1, none⟩ = some (.int .u64 a1_1) ∧ w'.cell? ⟨gb126, 2, none⟩ = some (.int .u64 a1_2) ∧ w'.cell? ⟨gb126, 3, none⟩ = some (.int .u64 a1_3) ∧ w'.cell? ⟨gb126, 4, none⟩ = some (.string a1_4)) (ds := []) bN18_ (by kernel_rfl) rfl rfl ⟨(blk_cell BK128.out 0).trans rfl, (blk_cell BK128.out 1).trans rfl, (blk_cell BK128.out 2).trans rfl, (blk_cell BK128.out 3).trans rfl, (blk_cell BK126.out 0).trans rfl, (blk_cell BK126.out 1).trans rfl, (blk_cell BK126.out 2).trans rfl, (blk_cell BK126.out 3).trans rfl, (blk_cell BK126.out 4).trans rfl⟩ (fun hHeld => ?_); refine with_tabW ferruleref04_Step.tab8 ferruleref04_Step.bits8 (fun HT_ HW_ => ?_)
        generalize w43.drew = w44 at HO0_5 BK125 BK126 BK127 BK128 HK HB hHeld ⊢
        refine pure_ (i := 1) (N := some 44) (v := ?_) (a' := ?_) bN19_ rfl rfl (any_of HT_.out (by kernel_rfl)) (fun _ _ _ h => h) (Or.inl ⟨by rfl, ?_⟩) ?_ ?_; rotate_left; (intro w'; go_simp; with_reducible rfl); rotate_left; (simp only [Act.put, List.setIfInBounds_toArray, List.set_cons_zero, List.set_cons_succ, i64_w, i32_w]; rfl)
        refine pure_ (i := 4) (N := some 47) (v := ?_) (a' := ?_) bN20_ rfl rfl (any_of HT_.out (by kernel_rfl)) (fun _ _ _ h => h) (Or.inl ⟨by rfl, ?_⟩) ?_ ?_; rotate_left; (intro w'; go_simp; with_reducible rfl); rotate_left; (simp only [Act.put, List.setIfInBounds_toArray, List.set_cons_zero, List.set_cons_succ, i64_w, i32_w]; rfl)
        refine pure_ (i := 6) (N := some 49) (v := ?_) (a' := ?_) bN21_ rfl rfl (any_of HT_.out (by kernel_rfl)) (fun _ _ _ h => h) (Or.inl ⟨by rfl, ?_⟩) ?_ ?_; rotate_left; (intro w'; go_simp; with_reducible rfl); rotate_left; (simp only [Act.put, List.setIfInBounds_toArray, List.set_cons_zero, List.set_cons_succ, i64_w, i32_w]; rfl)
        refine take_ (i := 2) (N := some 45) (v := ?_) (a' := ?_) bN22_ rfl rfl (take_ofW HT_.out HW_.out (by kernel_rfl)) (fun _ _ _ h => h) (Or.inl ⟨by rfl, ?_⟩) hHeld ?_ ?_; rotate_left; (rintro w' ⟨s0, s1, s2, s3, s4, s5, s6, s7, s8⟩; go_simp; with_reducible rfl); rotate_left; (simp only [Act.put, List.setIfInBounds_toArray, List.set_cons_zero, List.set_cons_succ, i64_w, i32_w]; rfl)
        refine take_ (i := 5) (N := some 48) (v := ?_) (a' := ?_) bN23_ rfl rfl (take_ofW HT_.out HW_.out (by kernel_rfl)) (fun _ _ _ h => h) (Or.inl ⟨by rfl, ?_⟩) hHeld ?_ ?_; rotate_left; (rintro w' ⟨s0, s1, s2, s3, s4, s5, s6, s7, s8⟩; go_simp; with_reducible rfl); rotate_left; (simp only [Act.put, List.setIfInBounds_toArray, List.set_cons_zero, List.set_cons_succ, i64_w, i32_w]; rfl)
        refine take_ (i := 7) (N := some 50) (v := ?_) (a' := ?_) bN24_ rfl rfl (take_ofW HT_.out HW_.out (by kernel_rfl)) (fun _ _ _ h => h) (Or.inl ⟨by rfl, ?_⟩) hHeld ?_ ?_; rotate_left; (rintro w' ⟨s0, s1, s2, s3, s4, s5, s6, s7, s8⟩; go_simp; with_reducible rfl); rotate_left; (simp only [Act.put, List.setIfInBounds_toArray, List.set_cons_zero, List.set_cons_succ, i64_w, i32_w]; rfl)
        refine pure_ (i := 8) (N := some 51) (v := ?_) (a' := ?_) bN25_ rfl rfl (any_of HT_.out (by kernel_rfl)) (fun _ _ _ h => h) (Or.inl ⟨by rfl, ?_⟩) ?_ ?_; rotate_left; (intro w'; go_simp; with_reducible rfl); rotate_left; (simp only [Act.put, List.setIfInBounds_toArray, List.set_cons_zero, List.set_cons_succ, i64_w, i32_w]; rfl)
        refine join_ (σ := Value × Value × Value) 4 bN26_ (fun s_ => [(43, s_.1), (46, s_.2.1), (52, s_.2.2)]) (fun s_ w' => (w'.cell? ⟨gb128, 0, none⟩ = some (.int .u64 a0_2) ∧ w'.cell? ⟨gb128, 1, none⟩ = some (.int .u64 a0_3) ∧ w'.cell? ⟨gb128, 2, none⟩ = some (.string a0_4) ∧ w'.cell? ⟨gb128, 3, none⟩ = some (.slice Ao27 l0_5.length co27) ∧ w'.cell? ⟨gb126, 0, none⟩ = some (.int .i64 a1_0) ∧ w'.cell? ⟨gb126, 1, none⟩ = some (.int .u64 a1_1) ∧ w'.cell? ⟨gb126, 2, none⟩ = some (.int .u64 a1_2) ∧ w'.cell? ⟨gb126, 3, none⟩ = some (.int .u64 a1_3) ∧ w'.cell? ⟨gb126, 4, none⟩ = some (.string a1_4)) ∧ (Kd.R k75 75 w' w0.heap.size (fun k_ => (P0_5_ k_ ∨ w.heap.size ≤ k_) ∧ some k_ ≠ (s_.2.1 : Value).ownBlock ∧ some k_ ≠ (s_.2.2 : Value).ownBlock) (.slice Ao27 l0_5.length co27) l0_5) ∧ (Kd.R k75 75 w' w0.heap.size (fun k_ => (P0_5_ k_ ∨ w.heap.size ≤ k_) ∧ some k_ ≠ (.slice Ao27 l0_5.length co27 : Value).ownBlock ∧ some k_ ≠ (s_.2.2 : Value).ownBlock) s_.2.1 y133) ∧ (Kd.R k75 75 w' w0.heap.size (fun k_ => (P0_5_ k_ ∨ w.heap.size ≤ k_) ∧ some k_ ≠ (.slice Ao27 l0_5.length co27 : Value).ownBlock ∧ some k_ ≠ (s_.2.1 : Value).ownBlock) s_.2.2 y136) ∧ (w'.heap[gb125]? = some (.cells #[.int .u64 a0_0, .int .u64 a0_1, .int .u64 a0_2, .int .u64 a0_3, .string a0_4, .slice Ao27 l0_5.length co27] 30 (0, 0))) ∧ (w'.heap[gb126]? = some (.cells #[.int .i64 a1_0, .int .u64 a1_1, .int .u64 a1_2, .int .u64 a1_3, .string a1_4] 39 (0, 0))) ∧ (w'.heap[gb127]? = some (.cells #[.int .u64 0, .int .u64 0, .int .u64 0, .int .u64 0, .string (⟨#[]⟩ : ByteArray), .slice none 0 0] 30 (0, 0))) ∧ (w'.heap[gb128]? = some (.cells #[.int .u64 a0_2, .int .u64 a0_3, .string a0_4, .slice Ao27 l0_5.length co27] 28 (0, 0))) ∧ (Kept w w' (fun k_ => P0_5_ k_)) ∧ (Below w0.heap.size w0 w')) ?_ ?_
        rotate_left
        ·intro hCont
         refine two_ (i := 0) (j := 9) (Ni := some 43) (Nj := some 52) bN27_ bN28_ rfl rfl rfl rfl (two_of HT_.out (by kernel_rfl)) (by decide) (by decide) (fun K hK => ?_) (fun K hK => ?_)
         ·skip
          refine Kd.R_lit_step k75 _ 75 ?hg (N := 43) ?hd (xs := ([] : List (S75))) (inner := []) (ok := fun _ => True) (okp := fun _ => True) ?hr ?hp (fun _ hk => hk) trivial (Below.refl _ _) (Nat.le_refl _) (by simp) ?_; (case hd => rfl); (case hg => rfl); (case hr => first | (go_simp; done) | (go_simp; rfl)); (case hp => exact (Reps.none _ _))
          intro v131 w45 ho46 hb hg_ hnew_
          clear hg_ hnew_
          (first | rw [← Ny130.out] at ho46 | (simp only [Int.reduceToNat] at ho46; rw [← Ny130.out] at ho46))
          have n0_ := am_ (Kd.R_elder' (rx_ HO0_5) (Kd.R_base ho46) hb)
          have n1_ := am_ (Kd.R_lower (Kd.R_new' (Kd.R_newM (M := fun k_ => (P0_5_ k_ ∨ w.heap.size ≤ k_)) ho46 (by first | exact HK.out.1 | exact (show Kept w _ (fun k_ => P0_5_ k_) from kx_ HK).1) (fun k_ h_ => .inr h_)) (Kd.R_lt (rx_ HO0_5))) (below_size (hx_ HB)))
          have n2_ := am_ (bb_ BK125 hb)
          have n3_ := am_ (bb_ BK126 hb)
          have n4_ := am_ (bb_ BK127 hb)
          have n5_ := am_ (bb_ BK128 hb)
          have n6_ := am_ (Kept.below (S := (fun k_ => P0_5_ k_)) (kx_ HK) hb)
          have n7_ := am_ (below_step (hy_ HB) hb)
          clear HO0_5
          clear BK125
          clear BK126
          clear BK127
          clear BK128
          clear HK
          clear HB
          have HO0_5 := n0_
          have HO132 := n1_
          have BK125 := n2_
          have BK126 := n3_
          have BK127 := n4_
          have BK128 := n5_
          have HK := n6_
          have HB := n7_
          clear n0_ n1_ n2_ n3_ n4_ n5_ n6_ n7_
          clear hb ho46
          refine hK.out _ _ ⟨(blk_cell BK128.out 0).trans rfl, (blk_cell BK128.out 1).trans rfl, (blk_cell BK128.out 2).trans rfl, (blk_cell BK128.out 3).trans rfl, (blk_cell BK126.out 0).trans rfl, (blk_cell BK126.out 1).trans rfl, (blk_cell BK126.out 2).trans rfl, (blk_cell BK126.out 3).trans rfl, (blk_cell BK126.out 4).trans rfl⟩ (fun hHeld => ?_)
          clear hK K
          refine norm_ (a' := ?_) ?_ ?_
          rotate_left
          ·show Act.put _ (some 43) _ = _
           simp only [Act.put, List.setIfInBounds_toArray, List.set_cons_zero, List.set_cons_succ, i64_w, i32_w]
           rfl
          refine two_ (i := 3) (j := 9) (Ni := some 46) (Nj := some 52) bN29_ bN30_ rfl rfl rfl rfl (two_of HT_.out (by kernel_rfl)) (by decide) (by decide) (fun K hK => ?_) (fun K hK => ?_)
          ·skip
           refine Kd.R_append_rows_step k75 (w0 := w0) w0.heap.size (by rfl) (.tmp 43) (.tmp 45) 26 75 (.agg #[(.int .u64 0), (.string ⟨#[]⟩)]) 24 rfl Try.underlying26 info75 rfl (by decide) (by omega) v131 y130 l0_5 _ _ _ (fun k_ => (P0_5_ k_ ∨ w.heap.size ≤ k_) ∧ some k_ ≠ (.slice Ao27 l0_5.length co27 : Value).ownBlock) (fun _ => False) rfl rfl ?aO ?aR (fun _ _ h => h) (fun _ h => h.elim) ?aF ?aB ?aS ?aL ?_
           (case aR => repeat (first | exact (Kd.R_reads' HO0_5.out).2.2 | (with_reducible refine Kd.C_alloc ?_ _) | (with_reducible refine Kd.C_drewN ?_ _) | (with_reducible refine Kd.C_drew ?_)))
           (case aB => exact (hx_ HB))
           (case aF => exact (fun k_ hk => ⟨(.inr (Nat.le_trans (by first | exact HK.out.1 | exact (show Kept w _ (fun k_ => P0_5_ k_) from kx_ HK).1) hk)), Kd.fresh' (Kd.R_lt (rx_ HO0_5)) k_ hk⟩))
           (case aO => exact (by (with_reducible repeat (first | apply Kd.R_alloc | apply Kd.R_drewN | apply Kd.R_drew)); exact Kd.R_mono HO132.out (fun _ hk => ⟨hk.1.1, hk.2⟩)))
           (case aS => exact (below_size (hx_ HB)))
           (case aL => have := LMc25.out; omega)
           intro v134 w47 ho hb hg hat
           rw [← Ny133.out] at ho
           have n0_ := am_ (Kd.R_after (ok := (fun k_ => (P0_5_ k_ ∨ w.heap.size ≤ k_))) (rx_ HO0_5) hg hat)
           have n1_ := am_ (blk_grown (g := gb125) (o := .cells #[.int .u64 a0_0, .int .u64 a0_1, .int .u64 a0_2, .int .u64 a0_3, .string a0_4, .slice Ao27 l0_5.length co27] 30 (0, 0)) (bx_ BK125) hg (Kd.R_ne HO132.out BK125.out (by decide)))
           have n2_ := am_ (blk_grown (g := gb126) (o := .cells #[.int .i64 a1_0, .int .u64 a1_1, .int .u64 a1_2, .int .u64 a1_3, .string a1_4] 39 (0, 0)) (bx_ BK126) hg (Kd.R_ne HO132.out BK126.out (by decide)))
           have n3_ := am_ (blk_grown (g := gb127) (o := .cells #[.int .u64 0, .int .u64 0, .int .u64 0, .int .u64 0, .string (⟨#[]⟩ : ByteArray), .slice none 0 0] 30 (0, 0)) (bx_ BK127) hg (Kd.R_ne HO132.out BK127.out (by decide)))
           have n4_ := am_ (blk_grown (g := gb128) (o := .cells #[.int .u64 a0_2, .int .u64 a0_3, .string a0_4, .slice Ao27 l0_5.length co27] 28 (0, 0)) (bx_ BK128) hg (Kd.R_ne HO132.out BK128.out (by decide)))
           have n5_ := am_ (hb)
           have n6_ := am_ (Kept.of_grown (S := (fun k_ => P0_5_ k_)) hg (kx_ HK) (fun k_ e_ => (HO132.out.1 k_ e_).1.1))
           have n7_ := am_ (ho)
           clear HO0_5
           clear BK125
           clear BK126
           clear BK127
           clear BK128
           clear HB
           clear HK
           clear HO132
           have HO0_5 := n0_
           have BK125 := n1_
           have BK126 := n2_
           have BK127 := n3_
           have BK128 := n4_
           have HB := n5_
           have HK := n6_
           have HO135 := n7_
           clear n0_ n1_ n2_ n3_ n4_ n5_ n6_ n7_
           clear ho hb hg hat
           refine hK.out _ _ ⟨(blk_cell BK128.out 0).trans rfl, (blk_cell BK128.out 1).trans rfl, (blk_cell BK128.out 2).trans rfl, (blk_cell BK128.out 3).trans rfl, (blk_cell BK126.out 0).trans rfl, (blk_cell BK126.out 1).trans rfl, (blk_cell BK126.out 2).trans rfl, (blk_cell BK126.out 3).trans rfl, (blk_cell BK126.out 4).trans rfl⟩ (fun hHeld => ?_)
           clear hK K
           refine norm_ (a' := ?_) ?_ ?_
           rotate_left
           ·show Act.put _ (some 46) _ = _
            simp only [Act.put, List.setIfInBounds_toArray, List.set_cons_zero, List.set_cons_succ, i64_w, i32_w]
            rfl
           refine one_ (i := 9) (N := some 52) bN26_ rfl rfl (one_of HT_.out (by kernel_rfl)) (by decide) (fun K hK => ?_)
           refine Kd.R_lit_step k75 _ 75 ?hg (N := 52) ?hd (xs := ([(⟨a1_2, a1_4⟩ : S75)] : List (S75))) (inner := [.int .u64 a1_2, .string a1_4]) (ok := fun _ => True) (okp := fun _ => True) ?hr ?hp (fun _ hk => hk) trivial (Below.refl _ _) (Nat.le_refl _) (by simp) ?_; (case hd => rfl); (case hg => rfl); (case hr => first | (go_simp; done) | (go_simp; rfl)); (case hp => exact (Reps.c2 (show Kd.M k75 _ _ _ (⟨a1_2, a1_4⟩ : S75) [.int .u64 a1_2, .string a1_4] from (k75_mkM _ _ _ (⟨a1_2, a1_4⟩ : S75) )) (Reps.none _ _)))
           intro v137 w48 ho49 hb hg_ hnew_
           clear hg_ hnew_
           (first | rw [← Ny136.out] at ho49 | (simp only [Int.reduceToNat] at ho49; rw [← Ny136.out] at ho49))
           have n0_ := am_ (Kd.R_elder' (rx_ HO0_5) (Kd.R_base ho49) hb)
           have n1_ := am_ (Kd.R_elder' (rx_ HO135) (Kd.R_base ho49) hb)
           have n2_ := am_ (Kd.R_lower (Kd.R_new' (Kd.R_new' (Kd.R_newM (M := fun k_ => (P0_5_ k_ ∨ w.heap.size ≤ k_)) ho49 (by first | exact HK.out.1 | exact (show Kept w _ (fun k_ => P0_5_ k_) from kx_ HK).1) (fun k_ h_ => .inr h_)) (Kd.R_lt (rx_ HO0_5))) (Kd.R_lt (rx_ HO135))) (below_size (hx_ HB)))
           have n3_ := am_ (bb_ BK125 hb)
           have n4_ := am_ (bb_ BK126 hb)
           have n5_ := am_ (bb_ BK127 hb)
           have n6_ := am_ (bb_ BK128 hb)
           have n7_ := am_ (Kept.below (S := (fun k_ => P0_5_ k_)) (kx_ HK) hb)
           have n8_ := am_ (below_step (hy_ HB) hb)
           clear HO0_5
           clear HO135
           clear BK125
           clear BK126
           clear BK127
           clear BK128
           clear HK
           clear HB
           have HO0_5 := n0_
           have HO135 := n1_
           have HO138 := n2_
           have BK125 := n3_
           have BK126 := n4_
           have BK127 := n5_
           have BK128 := n6_
           have HK := n7_
           have HB := n8_
           clear n0_ n1_ n2_ n3_ n4_ n5_ n6_ n7_ n8_
           clear hb ho49
           refine hK.out _ _ ⟨(blk_cell BK128.out 0).trans rfl, (blk_cell BK128.out 1).trans rfl, (blk_cell BK128.out 2).trans rfl, (blk_cell BK128.out 3).trans rfl, (blk_cell BK126.out 0).trans rfl, (blk_cell BK126.out 1).trans rfl, (blk_cell BK126.out 2).trans rfl, (blk_cell BK126.out 3).trans rfl, (blk_cell BK126.out 4).trans rfl⟩ (fun hHeld => ?_)
           clear hK K
           refine norm_ (a' := ?_) ?_ ?_
           rotate_left
           ·show Act.put _ (some 52) _ = _
            simp only [Act.put, List.setIfInBounds_toArray, List.set_cons_zero, List.set_cons_succ, i64_w, i32_w]
            rfl
           exact norm_ (by simp only [putAll, Act.put, List.setIfInBounds_toArray, List.set_cons_zero, List.set_cons_succ]) (hCont (v131, v134, v137) _ ⟨hHeld, (by (with_reducible repeat (first | apply Kd.R_alloc | apply Kd.R_drewN | apply Kd.R_drew)); exact Kd.R_mono HO0_5.out (fun _ hk => ⟨hk.1.1, ⟨hk.1.2, hk.2⟩⟩)), (by (with_reducible repeat (first | apply Kd.R_alloc | apply Kd.R_drewN | apply Kd.R_drew)); exact Kd.R_mono HO135.out (fun _ hk => ⟨hk.1.1, ⟨hk.1.2, hk.2⟩⟩)), (by (with_reducible repeat (first | apply Kd.R_alloc | apply Kd.R_drewN | apply Kd.R_drew)); exact Kd.R_mono HO138.out (fun _ hk => ⟨hk.1.1.1, ⟨hk.1.2, hk.2⟩⟩)), (bx_ BK125), (bx_ BK126), (bx_ BK127), (bx_ BK128), (kx_ HK), (hx_ HB)⟩)
          ·skip
           refine Kd.R_lit_step k75 _ 75 ?hg (N := 52) ?hd (xs := ([(⟨a1_2, a1_4⟩ : S75)] : List (S75))) (inner := [.int .u64 a1_2, .string a1_4]) (ok := fun _ => True) (okp := fun _ => True) ?hr ?hp (fun _ hk => hk) trivial (Below.refl _ _) (Nat.le_refl _) (by simp) ?_; (case hd => rfl); (case hg => rfl); (case hr => first | (go_simp; done) | (go_simp; rfl)); (case hp => exact (Reps.c2 (show Kd.M k75 _ _ _ (⟨a1_2, a1_4⟩ : S75) [.int .u64 a1_2, .string a1_4] from (k75_mkM _ _ _ (⟨a1_2, a1_4⟩ : S75) )) (Reps.none _ _)))
           intro v137 w47 ho48 hb hg_ hnew_
           clear hg_ hnew_
           (first | rw [← Ny136.out] at ho48 | (simp only [Int.reduceToNat] at ho48; rw [← Ny136.out] at ho48))
           have n0_ := am_ (Kd.R_elder' (rx_ HO0_5) (Kd.R_base ho48) hb)
           have n1_ := am_ (Kd.R_elder' (rx_ HO132) (Kd.R_base ho48) hb)
           have n2_ := am_ (Kd.R_lower (Kd.R_new' (Kd.R_new' (Kd.R_newM (M := fun k_ => (P0_5_ k_ ∨ w.heap.size ≤ k_)) ho48 (by first | exact HK.out.1 | exact (show Kept w _ (fun k_ => P0_5_ k_) from kx_ HK).1) (fun k_ h_ => .inr h_)) (Kd.R_lt (rx_ HO0_5))) (Kd.R_lt (rx_ HO132))) (below_size (hx_ HB)))
           have n3_ := am_ (bb_ BK125 hb)
           have n4_ := am_ (bb_ BK126 hb)
           have n5_ := am_ (bb_ BK127 hb)
           have n6_ := am_ (bb_ BK128 hb)
           have n7_ := am_ (Kept.below (S := (fun k_ => P0_5_ k_)) (kx_ HK) hb)
           have n8_ := am_ (below_step (hy_ HB) hb)
           clear HO0_5
           clear HO132
           clear BK125
           clear BK126
           clear BK127
           clear BK128
           clear HK
           clear HB
           have HO0_5 := n0_
           have HO132 := n1_
           have HO138 := n2_
           have BK125 := n3_
           have BK126 := n4_
           have BK127 := n5_
           have BK128 := n6_
           have HK := n7_
           have HB := n8_
           clear n0_ n1_ n2_ n3_ n4_ n5_ n6_ n7_ n8_
           clear hb ho48
           refine hK.out _ _ ⟨(blk_cell BK128.out 0).trans rfl, (blk_cell BK128.out 1).trans rfl, (blk_cell BK128.out 2).trans rfl, (blk_cell BK128.out 3).trans rfl, (blk_cell BK126.out 0).trans rfl, (blk_cell BK126.out 1).trans rfl, (blk_cell BK126.out 2).trans rfl, (blk_cell BK126.out 3).trans rfl, (blk_cell BK126.out 4).trans rfl⟩ (fun hHeld => ?_)
           clear hK K
           refine norm_ (a' := ?_) ?_ ?_
           rotate_left
           ·show Act.put _ (some 52) _ = _
            simp only [Act.put, List.setIfInBounds_toArray, List.set_cons_zero, List.set_cons_succ, i64_w, i32_w]
            rfl
           refine one_ (i := 3) (N := some 46) bN26_ rfl rfl (one_of HT_.out (by kernel_rfl)) (by decide) (fun K hK => ?_)
           refine Kd.R_append_rows_step k75 (w0 := w0) w0.heap.size (by rfl) (.tmp 43) (.tmp 45) 26 75 (.agg #[(.int .u64 0), (.string ⟨#[]⟩)]) 24 rfl Try.underlying26 info75 rfl (by decide) (by omega) v131 y130 l0_5 _ _ _ (fun k_ => (P0_5_ k_ ∨ w.heap.size ≤ k_) ∧ some k_ ≠ (.slice Ao27 l0_5.length co27 : Value).ownBlock ∧ some k_ ≠ (v137 : Value).ownBlock) (fun _ => False) rfl rfl ?aO ?aR (fun _ _ h => h) (fun _ h => h.elim) ?aF ?aB ?aS ?aL ?_
           (case aR => repeat (first | exact (Kd.R_reads' HO0_5.out).2.2 | (with_reducible refine Kd.C_alloc ?_ _) | (with_reducible refine Kd.C_drewN ?_ _) | (with_reducible refine Kd.C_drew ?_)))
           (case aB => exact (hx_ HB))
           (case aF => exact (fun k_ hk => ⟨(.inr (Nat.le_trans (by first | exact HK.out.1 | exact (show Kept w _ (fun k_ => P0_5_ k_) from kx_ HK).1) hk)), Kd.fresh' (Kd.R_lt (rx_ HO0_5)) k_ hk, Kd.fresh' (Kd.R_lt (rx_ HO138)) k_ hk⟩))
           (case aO => exact (by (with_reducible repeat (first | apply Kd.R_alloc | apply Kd.R_drewN | apply Kd.R_drew)); exact Kd.R_mono HO132.out (fun _ hk => ⟨hk.1.1.1, ⟨hk.1.2, hk.2⟩⟩)))
           (case aS => exact (below_size (hx_ HB)))
           (case aL => have := LMc25.out; omega)
           intro v134 w49 ho hb hg hat
           rw [← Ny133.out] at ho
           have n0_ := am_ (Kd.R_after (ok := (fun k_ => (P0_5_ k_ ∨ w.heap.size ≤ k_) ∧ some k_ ≠ (v137 : Value).ownBlock)) (by (with_reducible repeat (first | apply Kd.R_alloc | apply Kd.R_drewN | apply Kd.R_drew)); exact Kd.R_mono HO0_5.out (fun _ hk => ⟨⟨hk.1.1, hk.2⟩, hk.1.2⟩)) hg hat)
           have n1_ := am_ (blk_grown (g := gb125) (o := .cells #[.int .u64 a0_0, .int .u64 a0_1, .int .u64 a0_2, .int .u64 a0_3, .string a0_4, .slice Ao27 l0_5.length co27] 30 (0, 0)) (bx_ BK125) hg (Kd.R_ne HO132.out BK125.out (by decide)))
           have n2_ := am_ (blk_grown (g := gb126) (o := .cells #[.int .i64 a1_0, .int .u64 a1_1, .int .u64 a1_2, .int .u64 a1_3, .string a1_4] 39 (0, 0)) (bx_ BK126) hg (Kd.R_ne HO132.out BK126.out (by decide)))
           have n3_ := am_ (blk_grown (g := gb127) (o := .cells #[.int .u64 0, .int .u64 0, .int .u64 0, .int .u64 0, .string (⟨#[]⟩ : ByteArray), .slice none 0 0] 30 (0, 0)) (bx_ BK127) hg (Kd.R_ne HO132.out BK127.out (by decide)))
           have n4_ := am_ (blk_grown (g := gb128) (o := .cells #[.int .u64 a0_2, .int .u64 a0_3, .string a0_4, .slice Ao27 l0_5.length co27] 28 (0, 0)) (bx_ BK128) hg (Kd.R_ne HO132.out BK128.out (by decide)))
           have n5_ := am_ (Kd.R_after (ok := (fun k_ => (P0_5_ k_ ∨ w.heap.size ≤ k_) ∧ some k_ ≠ (.slice Ao27 l0_5.length co27 : Value).ownBlock)) (by (with_reducible repeat (first | apply Kd.R_alloc | apply Kd.R_drewN | apply Kd.R_drew)); exact Kd.R_mono HO138.out (fun _ hk => ⟨⟨hk.1.1.1, hk.1.2⟩, hk.2⟩)) hg hat)
           have n6_ := am_ (hb)
           have n7_ := am_ (Kept.of_grown (S := (fun k_ => P0_5_ k_)) hg (kx_ HK) (fun k_ e_ => (HO132.out.1 k_ e_).1.1.1))
           have n8_ := am_ (ho)
           clear HO0_5
           clear BK125
           clear BK126
           clear BK127
           clear BK128
           clear HO138
           clear HB
           clear HK
           clear HO132
           have HO0_5 := n0_
           have BK125 := n1_
           have BK126 := n2_
           have BK127 := n3_
           have BK128 := n4_
           have HO138 := n5_
           have HB := n6_
           have HK := n7_
           have HO135 := n8_
           clear n0_ n1_ n2_ n3_ n4_ n5_ n6_ n7_ n8_
           clear ho hb hg hat
           refine hK.out _ _ ⟨(blk_cell BK128.out 0).trans rfl, (blk_cell BK128.out 1).trans rfl, (blk_cell BK128.out 2).trans rfl, (blk_cell BK128.out 3).trans rfl, (blk_cell BK126.out 0).trans rfl, (blk_cell BK126.out 1).trans rfl, (blk_cell BK126.out 2).trans rfl, (blk_cell BK126.out 3).trans rfl, (blk_cell BK126.out 4).trans rfl⟩ (fun hHeld => ?_)
           clear hK K
           refine norm_ (a' := ?_) ?_ ?_
           rotate_left
           ·show Act.put _ (some 46) _ = _
            simp only [Act.put, List.setIfInBounds_toArray, List.set_cons_zero, List.set_cons_succ, i64_w, i32_w]
            rfl
           exact norm_ (by simp only [putAll, Act.put, List.setIfInBounds_toArray, List.set_cons_zero, List.set_cons_succ]) (hCont (v131, v134, v137) _ ⟨hHeld, (by (with_reducible repeat (first | apply Kd.R_alloc | apply Kd.R_drewN | apply Kd.R_drew)); exact Kd.R_mono HO0_5.out (fun _ hk => ⟨hk.1.1, ⟨hk.2, hk.1.2⟩⟩)), (rx_ HO135), (by (with_reducible repeat (first | apply Kd.R_alloc | apply Kd.R_drewN | apply Kd.R_drew)); exact Kd.R_mono HO138.out (fun _ hk => ⟨hk.1.1, ⟨hk.1.2, hk.2⟩⟩)), (bx_ BK125), (bx_ BK126), (bx_ BK127), (bx_ BK128), (kx_ HK), (hx_ HB)⟩)
         ·skip
          refine Kd.R_lit_step k75 _ 75 ?hg (N := 52) ?hd (xs := ([(⟨a1_2, a1_4⟩ : S75)] : List (S75))) (inner := [.int .u64 a1_2, .string a1_4]) (ok := fun _ => True) (okp := fun _ => True) ?hr ?hp (fun _ hk => hk) trivial (Below.refl _ _) (Nat.le_refl _) (by simp) ?_; (case hd => rfl); (case hg => rfl); (case hr => first | (go_simp; done) | (go_simp; rfl)); (case hp => exact (Reps.c2 (show Kd.M k75 _ _ _ (⟨a1_2, a1_4⟩ : S75) [.int .u64 a1_2, .string a1_4] from (k75_mkM _ _ _ (⟨a1_2, a1_4⟩ : S75) )) (Reps.none _ _)))
          intro v137 w45 ho46 hb hg_ hnew_
          clear hg_ hnew_
          (first | rw [← Ny136.out] at ho46 | (simp only [Int.reduceToNat] at ho46; rw [← Ny136.out] at ho46))
          have n0_ := am_ (Kd.R_elder' (rx_ HO0_5) (Kd.R_base ho46) hb)
          have n1_ := am_ (Kd.R_lower (Kd.R_new' (Kd.R_newM (M := fun k_ => (P0_5_ k_ ∨ w.heap.size ≤ k_)) ho46 (by first | exact HK.out.1 | exact (show Kept w _ (fun k_ => P0_5_ k_) from kx_ HK).1) (fun k_ h_ => .inr h_)) (Kd.R_lt (rx_ HO0_5))) (below_size (hx_ HB)))
          have n2_ := am_ (bb_ BK125 hb)
          have n3_ := am_ (bb_ BK126 hb)
          have n4_ := am_ (bb_ BK127 hb)
          have n5_ := am_ (bb_ BK128 hb)
          have n6_ := am_ (Kept.below (S := (fun k_ => P0_5_ k_)) (kx_ HK) hb)
          have n7_ := am_ (below_step (hy_ HB) hb)
          clear HO0_5
          clear BK125
          clear BK126
          clear BK127
          clear BK128
          clear HK
          clear HB
          have HO0_5 := n0_
          have HO138 := n1_
          have BK125 := n2_
          have BK126 := n3_
          have BK127 := n4_
          have BK128 := n5_
          have HK := n6_
          have HB := n7_
          clear n0_ n1_ n2_ n3_ n4_ n5_ n6_ n7_
          clear hb ho46
          refine hK.out _ _ ⟨(blk_cell BK128.out 0).trans rfl, (blk_cell BK128.out 1).trans rfl, (blk_cell BK128.out 2).trans rfl, (blk_cell BK128.out 3).trans rfl, (blk_cell BK126.out 0).trans rfl, (blk_cell BK126.out 1).trans rfl, (blk_cell BK126.out 2).trans rfl, (blk_cell BK126.out 3).trans rfl, (blk_cell BK126.out 4).trans rfl⟩ (fun hHeld => ?_)
          clear hK K
          refine norm_ (a' := ?_) ?_ ?_
          rotate_left
          ·show Act.put _ (some 52) _ = _
           simp only [Act.put, List.setIfInBounds_toArray, List.set_cons_zero, List.set_cons_succ, i64_w, i32_w]
           rfl
          refine one_ (i := 0) (N := some 43) bN30_ rfl rfl (one_of HT_.out (by kernel_rfl)) (by decide) (fun K hK => ?_)
          refine Kd.R_lit_step k75 _ 75 ?hg (N := 43) ?hd (xs := ([] : List (S75))) (inner := []) (ok := fun _ => True) (okp := fun _ => True) ?hr ?hp (fun _ hk => hk) trivial (Below.refl _ _) (Nat.le_refl _) (by simp) ?_; (case hd => rfl); (case hg => rfl); (case hr => first | (go_simp; done) | (go_simp; rfl)); (case hp => exact (Reps.none _ _))
          intro v131 w47 ho48 hb hg_ hnew_
          clear hg_ hnew_
          (first | rw [← Ny130.out] at ho48 | (simp only [Int.reduceToNat] at ho48; rw [← Ny130.out] at ho48))
          have n0_ := am_ (Kd.R_elder' (rx_ HO0_5) (Kd.R_base ho48) hb)
          have n1_ := am_ (Kd.R_elder' (rx_ HO138) (Kd.R_base ho48) hb)
          have n2_ := am_ (Kd.R_lower (Kd.R_new' (Kd.R_new' (Kd.R_newM (M := fun k_ => (P0_5_ k_ ∨ w.heap.size ≤ k_)) ho48 (by first | exact HK.out.1 | exact (show Kept w _ (fun k_ => P0_5_ k_) from kx_ HK).1) (fun k_ h_ => .inr h_)) (Kd.R_lt (rx_ HO0_5))) (Kd.R_lt (rx_ HO138))) (below_size (hx_ HB)))
          have n3_ := am_ (bb_ BK125 hb)
          have n4_ := am_ (bb_ BK126 hb)
          have n5_ := am_ (bb_ BK127 hb)
          have n6_ := am_ (bb_ BK128 hb)
          have n7_ := am_ (Kept.below (S := (fun k_ => P0_5_ k_)) (kx_ HK) hb)
          have n8_ := am_ (below_step (hy_ HB) hb)
          clear HO0_5
          clear HO138
          clear BK125
          clear BK126
          clear BK127
          clear BK128
          clear HK
          clear HB
          have HO0_5 := n0_
          have HO138 := n1_
          have HO132 := n2_
          have BK125 := n3_
          have BK126 := n4_
          have BK127 := n5_
          have BK128 := n6_
          have HK := n7_
          have HB := n8_
          clear n0_ n1_ n2_ n3_ n4_ n5_ n6_ n7_ n8_
          clear hb ho48
          refine hK.out _ _ ⟨(blk_cell BK128.out 0).trans rfl, (blk_cell BK128.out 1).trans rfl, (blk_cell BK128.out 2).trans rfl, (blk_cell BK128.out 3).trans rfl, (blk_cell BK126.out 0).trans rfl, (blk_cell BK126.out 1).trans rfl, (blk_cell BK126.out 2).trans rfl, (blk_cell BK126.out 3).trans rfl, (blk_cell BK126.out 4).trans rfl⟩ (fun hHeld => ?_)
          clear hK K
          refine norm_ (a' := ?_) ?_ ?_
          rotate_left
          ·show Act.put _ (some 43) _ = _
           simp only [Act.put, List.setIfInBounds_toArray, List.set_cons_zero, List.set_cons_succ, i64_w, i32_w]
           rfl
          refine one_ (i := 3) (N := some 46) bN26_ rfl rfl (one_of HT_.out (by kernel_rfl)) (by decide) (fun K hK => ?_)
          refine Kd.R_append_rows_step k75 (w0 := w0) w0.heap.size (by rfl) (.tmp 43) (.tmp 45) 26 75 (.agg #[(.int .u64 0), (.string ⟨#[]⟩)]) 24 rfl Try.underlying26 info75 rfl (by decide) (by omega) v131 y130 l0_5 _ _ _ (fun k_ => (P0_5_ k_ ∨ w.heap.size ≤ k_) ∧ some k_ ≠ (.slice Ao27 l0_5.length co27 : Value).ownBlock ∧ some k_ ≠ (v137 : Value).ownBlock) (fun _ => False) rfl rfl ?aO ?aR (fun _ _ h => h) (fun _ h => h.elim) ?aF ?aB ?aS ?aL ?_
          (case aR => repeat (first | exact (Kd.R_reads' HO0_5.out).2.2 | (with_reducible refine Kd.C_alloc ?_ _) | (with_reducible refine Kd.C_drewN ?_ _) | (with_reducible refine Kd.C_drew ?_)))
          (case aB => exact (hx_ HB))
          (case aF => exact (fun k_ hk => ⟨(.inr (Nat.le_trans (by first | exact HK.out.1 | exact (show Kept w _ (fun k_ => P0_5_ k_) from kx_ HK).1) hk)), Kd.fresh' (Kd.R_lt (rx_ HO0_5)) k_ hk, Kd.fresh' (Kd.R_lt (rx_ HO138)) k_ hk⟩))
          (case aO => exact (by (with_reducible repeat (first | apply Kd.R_alloc | apply Kd.R_drewN | apply Kd.R_drew)); exact Kd.R_mono HO132.out (fun _ hk => ⟨hk.1.1.1, ⟨hk.1.2, hk.2⟩⟩)))
          (case aS => exact (below_size (hx_ HB)))
          (case aL => have := LMc25.out; omega)
          intro v134 w49 ho hb hg hat
          rw [← Ny133.out] at ho
          have n0_ := am_ (Kd.R_after (ok := (fun k_ => (P0_5_ k_ ∨ w.heap.size ≤ k_) ∧ some k_ ≠ (v137 : Value).ownBlock)) (rx_ HO0_5) hg hat)
          have n1_ := am_ (blk_grown (g := gb125) (o := .cells #[.int .u64 a0_0, .int .u64 a0_1, .int .u64 a0_2, .int .u64 a0_3, .string a0_4, .slice Ao27 l0_5.length co27] 30 (0, 0)) (bx_ BK125) hg (Kd.R_ne HO132.out BK125.out (by decide)))
          have n2_ := am_ (blk_grown (g := gb126) (o := .cells #[.int .i64 a1_0, .int .u64 a1_1, .int .u64 a1_2, .int .u64 a1_3, .string a1_4] 39 (0, 0)) (bx_ BK126) hg (Kd.R_ne HO132.out BK126.out (by decide)))
          have n3_ := am_ (blk_grown (g := gb127) (o := .cells #[.int .u64 0, .int .u64 0, .int .u64 0, .int .u64 0, .string (⟨#[]⟩ : ByteArray), .slice none 0 0] 30 (0, 0)) (bx_ BK127) hg (Kd.R_ne HO132.out BK127.out (by decide)))
          have n4_ := am_ (blk_grown (g := gb128) (o := .cells #[.int .u64 a0_2, .int .u64 a0_3, .string a0_4, .slice Ao27 l0_5.length co27] 28 (0, 0)) (bx_ BK128) hg (Kd.R_ne HO132.out BK128.out (by decide)))
          have n5_ := am_ (Kd.R_after (ok := (fun k_ => (P0_5_ k_ ∨ w.heap.size ≤ k_) ∧ some k_ ≠ (.slice Ao27 l0_5.length co27 : Value).ownBlock)) (by (with_reducible repeat (first | apply Kd.R_alloc | apply Kd.R_drewN | apply Kd.R_drew)); exact Kd.R_mono HO138.out (fun _ hk => ⟨⟨hk.1.1.1, hk.1.2⟩, hk.2⟩)) hg hat)
          have n6_ := am_ (hb)
          have n7_ := am_ (Kept.of_grown (S := (fun k_ => P0_5_ k_)) hg (kx_ HK) (fun k_ e_ => (HO132.out.1 k_ e_).1.1.1))
          have n8_ := am_ (ho)
          clear HO0_5
          clear BK125
          clear BK126
          clear BK127
          clear BK128
          clear HO138
          clear HB
          clear HK
          clear HO132
          have HO0_5 := n0_
          have BK125 := n1_
          have BK126 := n2_
          have BK127 := n3_
          have BK128 := n4_
          have HO138 := n5_
          have HB := n6_
          have HK := n7_
          have HO135 := n8_
          clear n0_ n1_ n2_ n3_ n4_ n5_ n6_ n7_ n8_
          clear ho hb hg hat
          refine hK.out _ _ ⟨(blk_cell BK128.out 0).trans rfl, (blk_cell BK128.out 1).trans rfl, (blk_cell BK128.out 2).trans rfl, (blk_cell BK128.out 3).trans rfl, (blk_cell BK126.out 0).trans rfl, (blk_cell BK126.out 1).trans rfl, (blk_cell BK126.out 2).trans rfl, (blk_cell BK126.out 3).trans rfl, (blk_cell BK126.out 4).trans rfl⟩ (fun hHeld => ?_)
          clear hK K
          refine norm_ (a' := ?_) ?_ ?_
          rotate_left
          ·show Act.put _ (some 46) _ = _
           simp only [Act.put, List.setIfInBounds_toArray, List.set_cons_zero, List.set_cons_succ, i64_w, i32_w]
           rfl
          exact norm_ (by simp only [putAll, Act.put, List.setIfInBounds_toArray, List.set_cons_zero, List.set_cons_succ]) (hCont (v131, v134, v137) _ ⟨hHeld, (by (with_reducible repeat (first | apply Kd.R_alloc | apply Kd.R_drewN | apply Kd.R_drew)); exact Kd.R_mono HO0_5.out (fun _ hk => ⟨hk.1.1, ⟨hk.2, hk.1.2⟩⟩)), (rx_ HO135), (by (with_reducible repeat (first | apply Kd.R_alloc | apply Kd.R_drewN | apply Kd.R_drew)); exact Kd.R_mono HO138.out (fun _ hk => ⟨hk.1.1, ⟨hk.1.2, hk.2⟩⟩)), (bx_ BK125), (bx_ BK126), (bx_ BK127), (bx_ BK128), (kx_ HK), (hx_ HB)⟩)
        rintro ⟨v131, v134, v137⟩ w50 ⟨hS_, h0_, h1_, h2_, h3_, h4_, h5_, h6_, h7_, h8_⟩
        have n0_ : Aside0 (Kd.R k75 75 w50 w0.heap.size (fun k_ => (P0_5_ k_ ∨ w.heap.size ≤ k_) ∧ some k_ ≠ (v134 : Value).ownBlock ∧ some k_ ≠ (v137 : Value).ownBlock) (.slice Ao27 l0_5.length co27) l0_5) := ⟨h0_⟩
        have n1_ : Aside0 (Kd.R k75 75 w50 w0.heap.size (fun k_ => (P0_5_ k_ ∨ w.heap.size ≤ k_) ∧ some k_ ≠ (.slice Ao27 l0_5.length co27 : Value).ownBlock ∧ some k_ ≠ (v137 : Value).ownBlock) v134 y133) := ⟨h1_⟩
        have n2_ : Aside0 (Kd.R k75 75 w50 w0.heap.size (fun k_ => (P0_5_ k_ ∨ w.heap.size ≤ k_) ∧ some k_ ≠ (.slice Ao27 l0_5.length co27 : Value).ownBlock ∧ some k_ ≠ (v134 : Value).ownBlock) v137 y136) := ⟨h2_⟩
        have n3_ : Aside0 (w50.heap[gb125]? = some (.cells #[.int .u64 a0_0, .int .u64 a0_1, .int .u64 a0_2, .int .u64 a0_3, .string a0_4, .slice Ao27 l0_5.length co27] 30 (0, 0))) := ⟨h3_⟩
        have n4_ : Aside0 (w50.heap[gb126]? = some (.cells #[.int .i64 a1_0, .int .u64 a1_1, .int .u64 a1_2, .int .u64 a1_3, .string a1_4] 39 (0, 0))) := ⟨h4_⟩
        have n5_ : Aside0 (w50.heap[gb127]? = some (.cells #[.int .u64 0, .int .u64 0, .int .u64 0, .int .u64 0, .string (⟨#[]⟩ : ByteArray), .slice none 0 0] 30 (0, 0))) := ⟨h5_⟩
        have n6_ : Aside0 (w50.heap[gb128]? = some (.cells #[.int .u64 a0_2, .int .u64 a0_3, .string a0_4, .slice Ao27 l0_5.length co27] 28 (0, 0))) := ⟨h6_⟩
        have n7_ : Aside0 (Kept w w50 (fun k_ => P0_5_ k_)) := ⟨h7_⟩
        have n8_ : Aside0 (Below w0.heap.size w0 w50) := ⟨h8_⟩
        clear HO0_5
        clear BK125
        clear BK126
        clear BK127
        clear BK128
        clear HK
        clear HB
        clear h0_ h1_ h2_ h3_ h4_ h5_ h6_ h7_ h8_
        have HO0_5 := n0_
        have HO135 := n1_
        have HO138 := n2_
        have BK125 := n3_
        have BK126 := n4_
        have BK127 := n5_
        have BK128 := n6_
        have HK := n7_
        have HB := n8_
        clear n0_ n1_ n2_ n3_ n4_ n5_ n6_ n7_ n8_
        have hHeld : w50.cell? ⟨gb128, 0, none⟩ = some (.int .u64 a0_2) ∧ w50.cell? ⟨gb128, 1, none⟩ = some (.int .u64 a0_3) ∧ w50.cell? ⟨gb128, 2, none⟩ = some (.string a0_4) ∧ w50.cell? ⟨gb128, 3, none⟩ = some (.slice Ao27 l0_5.length co27) ∧ w50.cell? ⟨gb126, 0, none⟩ = some (.int .i64 a1_0) ∧ w50.cell? ⟨gb126, 1, none⟩ = some (.int .u64 a1_1) ∧ w50.cell? ⟨gb126, 2, none⟩ = some (.int .u64 a1_2) ∧ w50.cell? ⟨gb126, 3, none⟩ = some (.int .u64 a1_3) ∧ w50.cell? ⟨gb126, 4, none⟩ = some (.string a1_4) := hS_
        obtain ⟨Ao52, co52, eo52⟩ := Kd.R_slice HO138.out
        (first | subst eo52 | (injection eo52 with f1_ f2_ f3_; have f4_ := f1_.symm; have f5_ := f3_.symm; clear f1_ f2_ f3_; subst f4_; subst f5_))
        refine norm_ (a' := ?_) ?_ ?_; rotate_left; (simp only [putAll, Act.put, List.setIfInBounds_toArray, List.set_cons_zero, List.set_cons_succ]; rfl)
        refine one_ (i := 10) (N := some 53) bN31_ rfl rfl (one_of HT_.out (by kernel_rfl)) (by decide) (fun K hK => ?_)
        refine Kd.R_append_rows_step k75 (w0 := w0) w0.heap.size (by rfl) (.tmp 46) (.tmp 52) 26 75 (.agg #[(.int .u64 0), (.string ⟨#[]⟩)]) 24 rfl Try.underlying26 info75 rfl (by decide) (by omega) v134 y133 y136 _ _ _ (fun k_ => (P0_5_ k_ ∨ w.heap.size ≤ k_) ∧ some k_ ≠ (.slice Ao27 l0_5.length co27 : Value).ownBlock ∧ some k_ ≠ (.slice Ao52 y136.length co52 : Value).ownBlock) (fun _ => False) rfl rfl ?aO ?aR (fun _ _ h => h) (fun _ h => h.elim) ?aF ?aB ?aS ?aL ?_
        (case aR => repeat (first | exact (Kd.R_reads' HO138.out).2.2 | (with_reducible refine Kd.C_alloc ?_ _) | (with_reducible refine Kd.C_drewN ?_ _) | (with_reducible refine Kd.C_drew ?_)))
        (case aB => exact (hx_ HB))
        (case aF => exact (fun k_ hk => ⟨(.inr (Nat.le_trans (by first | exact HK.out.1 | exact (show Kept w _ (fun k_ => P0_5_ k_) from kx_ HK).1) hk)), Kd.fresh' (Kd.R_lt (rx_ HO0_5)) k_ hk, Kd.fresh' (Kd.R_lt (rx_ HO138)) k_ hk⟩))
        (case aO => exact (rx_ HO135))
        (case aS => exact (below_size (hx_ HB)))
        (case aL => have := LMc26.out; omega)
        intro v140 w51 ho hb hg hat
        rw [← Ny139.out] at ho
        have n0_ := am_ (Kd.R_after (ok := (fun k_ => (P0_5_ k_ ∨ w.heap.size ≤ k_) ∧ some k_ ≠ (.slice Ao52 y136.length co52 : Value).ownBlock)) (by (with_reducible repeat (first | apply Kd.R_alloc | apply Kd.R_drewN | apply Kd.R_drew)); exact Kd.R_mono HO0_5.out (fun _ hk => ⟨⟨hk.1, hk.2.2⟩, hk.2.1⟩)) hg hat)
        have n1_ := am_ (blk_grown (g := gb125) (o := .cells #[.int .u64 a0_0, .int .u64 a0_1, .int .u64 a0_2, .int .u64 a0_3, .string a0_4, .slice Ao27 l0_5.length co27] 30 (0, 0)) (bx_ BK125) hg (Kd.R_ne HO135.out BK125.out (by decide)))
        have n2_ := am_ (blk_grown (g := gb126) (o := .cells #[.int .i64 a1_0, .int .u64 a1_1, .int .u64 a1_2, .int .u64 a1_3, .string a1_4] 39 (0, 0)) (bx_ BK126) hg (Kd.R_ne HO135.out BK126.out (by decide)))
        have n3_ := am_ (blk_grown (g := gb127) (o := .cells #[.int .u64 0, .int .u64 0, .int .u64 0, .int .u64 0, .string (⟨#[]⟩ : ByteArray), .slice none 0 0] 30 (0, 0)) (bx_ BK127) hg (Kd.R_ne HO135.out BK127.out (by decide)))
        have n4_ := am_ (blk_grown (g := gb128) (o := .cells #[.int .u64 a0_2, .int .u64 a0_3, .string a0_4, .slice Ao27 l0_5.length co27] 28 (0, 0)) (bx_ BK128) hg (Kd.R_ne HO135.out BK128.out (by decide)))
        have n5_ := am_ (Kd.R_after (ok := (fun k_ => (P0_5_ k_ ∨ w.heap.size ≤ k_) ∧ some k_ ≠ (.slice Ao27 l0_5.length co27 : Value).ownBlock)) (by (with_reducible repeat (first | apply Kd.R_alloc | apply Kd.R_drewN | apply Kd.R_drew)); exact Kd.R_mono HO138.out (fun _ hk => ⟨⟨hk.1, hk.2.1⟩, hk.2.2⟩)) hg hat)
        have n6_ := am_ (hb)
        have n7_ := am_ (Kept.of_grown (S := (fun k_ => P0_5_ k_)) hg (kx_ HK) (fun k_ e_ => (HO135.out.1 k_ e_).1))
        have n8_ := am_ (ho)
        clear HO0_5
        clear BK125
        clear BK126
        clear BK127
        clear BK128
        clear HO138
        clear HB
        clear HK
        clear HO135
        have HO0_5 := n0_
        have BK125 := n1_
        have BK126 := n2_
        have BK127 := n3_
        have BK128 := n4_
        have HO138 := n5_
        have HB := n6_
        have HK := n7_
        have HO141 := n8_
        clear n0_ n1_ n2_ n3_ n4_ n5_ n6_ n7_ n8_
        clear ho hb hg hat
        obtain ⟨Ao53, co53, eo53⟩ := Kd.R_slice HO141.out
        (first | subst eo53 | (injection eo53 with f1_ f2_ f3_; have f4_ := f1_.symm; have f5_ := f3_.symm; clear f1_ f2_ f3_; subst f4_; subst f5_))
        refine hK.out _ _ ⟨(blk_cell BK128.out 0).trans rfl, (blk_cell BK128.out 1).trans rfl, (blk_cell BK128.out 2).trans rfl, (blk_cell BK128.out 3).trans rfl, (blk_cell BK126.out 0).trans rfl, (blk_cell BK126.out 1).trans rfl, (blk_cell BK126.out 2).trans rfl, (blk_cell BK126.out 3).trans rfl, (blk_cell BK126.out 4).trans rfl⟩ (fun hHeld => ?_)
        clear hK K
        refine norm_ (a' := ?_) ?_ ?_
        rotate_left
        ·show Act.put _ (some 53) _ = _
         simp only [Act.put, List.setIfInBounds_toArray, List.set_cons_zero, List.set_cons_succ, i64_w, i32_w]
         rfl
        refine pure_ (i := 11) (N := some 54) (v := ?_) (a' := ?_) bN32_ rfl rfl (any_of HT_.out (by kernel_rfl)) (fun _ _ _ h => h) (Or.inl ⟨by rfl, ?_⟩) ?_ ?_; rotate_left; (intro w'; go_simp; with_reducible rfl); rotate_left; (simp only [Act.put, List.setIfInBounds_toArray, List.set_cons_zero, List.set_cons_succ, i64_w, i32_w]; rfl)
        refine pure_ (i := 12) (N := some 55) (v := ?_) (a' := ?_) bN33_ rfl rfl (any_of HT_.out (by kernel_rfl)) (fun _ _ _ h => h) (Or.inl ⟨by rfl, ?_⟩) ?_ ?_; rotate_left; (intro w'; go_simp; with_reducible rfl); rotate_left; (simp only [Act.put, List.setIfInBounds_toArray, List.set_cons_zero, List.set_cons_succ, i64_w, i32_w]; rfl)
        refine one_ (i := 13) (N := none) bN34_ rfl rfl (one_of HT_.out (by kernel_rfl)) (by decide) (fun K hK => ?_)
        have hs54 : w51.cell? ⟨gb125, 5, none⟩ = some (.slice Ao27 l0_5.length co27) := (blk_cell BK125.out 5).trans rfl
        have hfs54 := blk_frozen BK125.out 5
        have hns54_1 := NB126_125.out
        have hns54_2 := NB127_125.out
        have hns54_3 := NB128_125.out
        have hms54_1 := NB125_126.out
        have hms54_2 := NB125_127.out
        have hms54_3 := NB125_128.out
        refine skip_ (w1 := ?_) (by rfl) rfl ?_ ?_
        rotate_left
        ·go_simp
         rfl
        refine hK.out _ _ ⟨((cell_far (p := ⟨gb125, _, none⟩) NB128_125.out _).trans (hHeld.1)), ((cell_far (p := ⟨gb125, _, none⟩) NB128_125.out _).trans (hHeld.2.1)), ((cell_far (p := ⟨gb125, _, none⟩) NB128_125.out _).trans (hHeld.2.2.1)), ((cell_far (p := ⟨gb125, _, none⟩) NB128_125.out _).trans (hHeld.2.2.2.1)), ((cell_far (p := ⟨gb125, _, none⟩) NB126_125.out _).trans (hHeld.2.2.2.2.1)), ((cell_far (p := ⟨gb125, _, none⟩) NB126_125.out _).trans (hHeld.2.2.2.2.2.1)), ((cell_far (p := ⟨gb125, _, none⟩) NB126_125.out _).trans (hHeld.2.2.2.2.2.2.1)), ((cell_far (p := ⟨gb125, _, none⟩) NB126_125.out _).trans (hHeld.2.2.2.2.2.2.2.1)), ((cell_far (p := ⟨gb125, _, none⟩) NB126_125.out _).trans (hHeld.2.2.2.2.2.2.2.2))⟩ (fun hHeld => ?_)
        clear hK K
        refine done_ (done_of HT_.out (by kernel_rfl)) ?_
        have hcz55_0 : w51.cell? ⟨gb125, 0, none⟩ = some (.int .u64 a0_0) := (blk_cell BK125.out 0).trans rfl
        have hcz55_1 : w51.cell? ⟨gb125, 1, none⟩ = some (.int .u64 a0_1) := (blk_cell BK125.out 1).trans rfl
        have hcz55_2 : w51.cell? ⟨gb125, 2, none⟩ = some (.int .u64 a0_2) := (blk_cell BK125.out 2).trans rfl
        have hcz55_3 : w51.cell? ⟨gb125, 3, none⟩ = some (.int .u64 a0_3) := (blk_cell BK125.out 3).trans rfl
        have hcz55_4 : w51.cell? ⟨gb125, 4, none⟩ = some (.string a0_4) := (blk_cell BK125.out 4).trans rfl
        have hcz55_5 : w51.cell? ⟨gb125, 5, none⟩ = some (.slice Ao27 l0_5.length co27) := (blk_cell BK125.out 5).trans rfl
        have hfz55_0 := blk_frozen BK125.out 0
        have hfz55_1 := blk_frozen BK125.out 1
        have hfz55_2 := blk_frozen BK125.out 2
        have hfz55_3 := blk_frozen BK125.out 3
        have hfz55_4 := blk_frozen BK125.out 4
        have hfz55_5 := blk_frozen BK125.out 5
        have hcz56_0 : w51.cell? ⟨gb127, 0, none⟩ = some (.int .u64 0) := (blk_cell BK127.out 0).trans rfl
        have hcz56_1 : w51.cell? ⟨gb127, 1, none⟩ = some (.int .u64 0) := (blk_cell BK127.out 1).trans rfl
        have hcz56_2 : w51.cell? ⟨gb127, 2, none⟩ = some (.int .u64 0) := (blk_cell BK127.out 2).trans rfl
        have hcz56_3 : w51.cell? ⟨gb127, 3, none⟩ = some (.int .u64 0) := (blk_cell BK127.out 3).trans rfl
        have hcz56_4 : w51.cell? ⟨gb127, 4, none⟩ = some (.string (⟨#[]⟩ : ByteArray)) := (blk_cell BK127.out 4).trans rfl
        have hcz56_5 : w51.cell? ⟨gb127, 5, none⟩ = some (.slice none 0 0) := (blk_cell BK127.out 5).trans rfl
        have hfz56_0 := blk_frozen BK127.out 0
        have hfz56_1 := blk_frozen BK127.out 1
        have hfz56_2 := blk_frozen BK127.out 2
        have hfz56_3 := blk_frozen BK127.out 3
        have hfz56_4 := blk_frozen BK127.out 4
        have hfz56_5 := blk_frozen BK127.out 5
        try go_wp2
        refine bodyPost_ret (results_cell_row rfl _ _ gb127 30 #[.int .u64 a0_0, .int .u64 a0_1, .int .u64 a0_2, .int .u64 a0_3, .string a0_4, .slice Ao53 y139.length co53] (0, 0) _ rfl (by (with_reducible repeat (first | refine blk_drewN ?_ _ | refine blk_drew ?_ | refine blk_alloc ?_ _)); refine blk_put (cs := #[.int .u64 a0_0, .int .u64 a0_1, .int .u64 a0_2, .int .u64 a0_3, .string a0_4, .slice none 0 0]) ?_ 5 _ rfl; (with_reducible repeat (first | refine blk_drewN ?_ _ | refine blk_drew ?_ | refine blk_alloc ?_ _)); refine blk_put (cs := #[.int .u64 a0_0, .int .u64 a0_1, .int .u64 a0_2, .int .u64 a0_3, .string (⟨#[]⟩ : ByteArray), .slice none 0 0]) ?_ 4 _ rfl; (with_reducible repeat (first | refine blk_drewN ?_ _ | refine blk_drew ?_ | refine blk_alloc ?_ _)); refine blk_put (cs := #[.int .u64 a0_0, .int .u64 a0_1, .int .u64 a0_2, .int .u64 0, .string (⟨#[]⟩ : ByteArray), .slice none 0 0]) ?_ 3 _ rfl; (with_reducible repeat (first | refine blk_drewN ?_ _ | refine blk_drew ?_ | refine blk_alloc ?_ _)); refine blk_put (cs := #[.int .u64 a0_0, .int .u64 a0_1, .int .u64 0, .int .u64 0, .string (⟨#[]⟩ : ByteArray), .slice none 0 0]) ?_ 2 _ rfl; (with_reducible repeat (first | refine blk_drewN ?_ _ | refine blk_drew ?_ | refine blk_alloc ?_ _)); refine blk_put (cs := #[.int .u64 a0_0, .int .u64 0, .int .u64 0, .int .u64 0, .string (⟨#[]⟩ : ByteArray), .slice none 0 0]) ?_ 1 _ rfl; (with_reducible repeat (first | refine blk_drewN ?_ _ | refine blk_drew ?_ | refine blk_alloc ?_ _)); refine blk_put (cs := #[.int .u64 0, .int .u64 0, .int .u64 0, .int .u64 0, .string (⟨#[]⟩ : ByteArray), .slice none 0 0]) ?_ 0 _ rfl; (with_reducible repeat (first | refine blk_drewN ?_ _ | refine blk_drew ?_ | refine blk_alloc ?_ _)); refine blk_far ?_ NB127_125.out _; (with_reducible repeat (first | refine blk_drewN ?_ _ | refine blk_drew ?_ | refine blk_alloc ?_ _)); exact BK127.out) Try.underlying30 rfl (by kernel_rfl)) rfl ?_
        exact ⟨_, by first | rfl | (simp [errW_none, errW_some] <;> rfl) | (simp [*, errW_none, errW_some] <;> rfl), by (with_reducible repeat (first | apply Kd.R_alloc | apply Kd.R_drewN | apply Kd.R_drew)); exact Kd.R_mono (Kd.R_far (p := ⟨gb127, 5, none⟩) (Kd.R_far (p := ⟨gb127, 4, none⟩) (Kd.R_far (p := ⟨gb127, 3, none⟩) (Kd.R_far (p := ⟨gb127, 2, none⟩) (Kd.R_far (p := ⟨gb127, 1, none⟩) (Kd.R_far (p := ⟨gb127, 0, none⟩) (Kd.R_far (p := ⟨gb125, 5, none⟩) (Kd.R_types (Kd.R_types HO141.out BK125.out (by decide)) BK127.out (by decide)) (fun _ hk => hk.1.2) (.slice Ao53 y139.length co53)) (fun _ hk => hk.2) (.int .u64 a0_0)) (fun _ hk => hk.2) (.int .u64 a0_1)) (fun _ hk => hk.2) (.int .u64 a0_2)) (fun _ hk => hk.2) (.int .u64 a0_3)) (fun _ hk => hk.2) (.string a0_4)) (fun _ hk => hk.2) (.slice Ao53 y139.length co53)) (fun _ hk => hk.1.1.1), hx_ HB, kx_ HK⟩
       ·rw [if_neg c26] at H
        exact absurd H (by simp)
      ·rw [if_neg c25] at H
       exact absurd H (by simp)
     ·rw [if_neg c24] at H
      have c24b0 : decide (a1_1 ≤ 1099511627776) = false := decide_eq_false c24
      clear c24
      simp only [Option.some.injEq, Prod.mk.injEq] at H
      obtain ⟨rfl, rfl, rfl, rfl, rfl, rfl⟩ := H
      obtain ⟨Ao57, co57, eo57⟩ := Kd.R_slice HO0_5.out
      subst eo57
      go_enter Try.func44, Try.ntmps44
      try go_wp2_with (first | ((with_reducible refine gate_dst (N := 2) rfl ?_); (try (refine gate_guard (by rfl) ?_; dsimp only)); refine box_event ?hg (N := 2) ?hd (cs := #[.int .u64 a0_0, .int .u64 a0_1, .int .u64 a0_2, .int .u64 a0_3, .string a0_4, .slice Ao57 l0_5.length co57]) (t := 30) ?hr ?_; (case hd => rfl); (case hg => rfl); (case hr => first | (go_simp; done) | (go_simp; rfl)); intro gb125 hg w58 hbox hb; have n0_ := am_ (Kd.R_below (rx_ HO0_5) hb); have n1_ := am_ (Kept.below (S := (fun k_ => P0_5_ k_)) (kx_ HK) hb); have n2_ := am_ (below_step (hy_ HB) hb); have n3_ := am_ (hbox); have n4_ := am_ ((by rw [hg]; exact (by first | exact HK.out.1 | exact (show Kept w _ (fun k_ => P0_5_ k_) from kx_ HK).1) : w.heap.size ≤ gb125)); have n5_ := am_ ((by rw [hg]; exact (below_size (hx_ HB)) : w0.heap.size ≤ gb125)); clear HO0_5 HK HB; have HO0_5 := n0_; have HK := n1_; have HB := n2_; have BK125 := n3_; have GW125 := n4_; have GE125 := n5_; clear n0_ n1_ n2_ n3_ n4_ n5_; clear hb hbox hg) | ((with_reducible refine gate_dst (N := 3) rfl ?_); (try (refine gate_guard (by rfl) ?_; dsimp only)); refine box_event ?hg (N := 3) ?hd (cs := #[.int .i64 a1_0, .int .u64 a1_1, .int .u64 a1_2, .int .u64 a1_3, .string a1_4]) (t := 39) ?hr ?_; (case hd => rfl); (case hg => rfl); (case hr => first | (go_simp; done) | (go_simp; rfl)); intro gb126 hg w59 hbox hb; have n0_ := am_ (Kd.R_below (rx_ HO0_5) hb); have n1_ := am_ (bb_ BK125 hb); have n2_ := am_ (Kept.below (S := (fun k_ => P0_5_ k_)) (kx_ HK) hb); have n3_ := am_ (below_step (hy_ HB) hb); have n4_ := am_ (hbox); have n5_ := am_ ((by rw [hg]; exact (by first | exact HK.out.1 | exact (show Kept w _ (fun k_ => P0_5_ k_) from kx_ HK).1) : w.heap.size ≤ gb126)); have n6_ := am_ ((by rw [hg]; exact (below_size (hx_ HB)) : w0.heap.size ≤ gb126)); have n7_ := am_ ((by rw [hg]; exact Nat.ne_of_lt (bl_ BK125) : gb125 ≠ gb126)); have n8_ := am_ ((by rw [hg]; exact Nat.ne_of_gt (bl_ BK125) : gb126 ≠ gb125)); clear HO0_5 BK125 HK HB; have HO0_5 := n0_; have BK125 := n1_; have HK := n2_; have HB := n3_; have BK126 := n4_; have GW126 := n5_; have GE126 := n6_; have NB125_126 := n7_; have NB126_125 := n8_; clear n0_ n1_ n2_ n3_ n4_ n5_ n6_ n7_ n8_; clear hb hbox hg) | ((with_reducible refine gate_dst (N := 4) rfl ?_); (try (refine gate_guard (by rfl) ?_; dsimp only)); refine box_event ?hg (N := 4) ?hd (cs := #[.int .u64 0, .int .u64 0, .int .u64 0, .int .u64 0, .string (⟨#[]⟩ : ByteArray), .slice none 0 0]) (t := 30) ?hr ?_; (case hd => rfl); (case hg => rfl); (case hr => first | (go_simp; done) | (go_simp; rfl)); intro gb127 hg w60 hbox hb; have n0_ := am_ (Kd.R_below (rx_ HO0_5) hb); have n1_ := am_ (bb_ BK125 hb); have n2_ := am_ (bb_ BK126 hb); have n3_ := am_ (Kept.below (S := (fun k_ => P0_5_ k_)) (kx_ HK) hb); have n4_ := am_ (below_step (hy_ HB) hb); have n5_ := am_ (hbox); have n6_ := am_ ((by rw [hg]; exact (by first | exact HK.out.1 | exact (show Kept w _ (fun k_ => P0_5_ k_) from kx_ HK).1) : w.heap.size ≤ gb127)); have n7_ := am_ ((by rw [hg]; exact (below_size (hx_ HB)) : w0.heap.size ≤ gb127)); have n8_ := am_ ((by rw [hg]; exact Nat.ne_of_lt (bl_ BK125) : gb125 ≠ gb127)); have n9_ := am_ ((by rw [hg]; exact Nat.ne_of_gt (bl_ BK125) : gb127 ≠ gb125)); have n10_ := am_ ((by rw [hg]; exact Nat.ne_of_lt (bl_ BK126) : gb126 ≠ gb127)); have n11_ := am_ ((by rw [hg]; exact Nat.ne_of_gt (bl_ BK126) : gb127 ≠ gb126)); clear HO0_5 BK125 BK126 HK HB; have HO0_5 := n0_; have BK125 := n1_; have BK126 := n2_; have HK := n3_; have HB := n4_; have BK127 := n5_; have GW127 := n6_; have GE127 := n7_; have NB125_127 := n8_; have NB127_125 := n9_; have NB126_127 := n10_; have NB127_126 := n11_; clear n0_ n1_ n2_ n3_ n4_ n5_ n6_ n7_ n8_ n9_ n10_ n11_; clear hb hbox hg; have hnb61 := NB125_126.out; have hnc61 := NB126_125.out; have hnb62 := NB125_127.out; have hnc62 := NB127_125.out; have hcz63_0 : w60.cell? ⟨gb125, 0, none⟩ = some (.int .u64 a0_0) := (blk_cell BK125.out 0).trans rfl; have hcz63_1 : w60.cell? ⟨gb125, 1, none⟩ = some (.int .u64 a0_1) := (blk_cell BK125.out 1).trans rfl; have hcz63_2 : w60.cell? ⟨gb125, 2, none⟩ = some (.int .u64 a0_2) := (blk_cell BK125.out 2).trans rfl; have hcz63_3 : w60.cell? ⟨gb125, 3, none⟩ = some (.int .u64 a0_3) := (blk_cell BK125.out 3).trans rfl; have hcz63_4 : w60.cell? ⟨gb125, 4, none⟩ = some (.string a0_4) := (blk_cell BK125.out 4).trans rfl; have hcz63_5 : w60.cell? ⟨gb125, 5, none⟩ = some (.slice Ao57 l0_5.length co57) := (blk_cell BK125.out 5).trans rfl; have hfz63_0 := blk_frozen BK125.out 0; have hfz63_1 := blk_frozen BK125.out 1; have hfz63_2 := blk_frozen BK125.out 2; have hfz63_3 := blk_frozen BK125.out 3; have hfz63_4 := blk_frozen BK125.out 4; have hfz63_5 := blk_frozen BK125.out 5) | ((with_reducible refine gate_dst (N := 5) rfl ?_); (try (refine gate_guard (by rfl) ?_; dsimp only)); refine box_event ?hg (N := 5) ?hd (cs := #[.int .u64 0, .int .u64 0, .string (⟨#[]⟩ : ByteArray), .slice none 0 0]) (t := 28) ?hr ?_; (case hd => rfl); (case hg => rfl); (case hr => first | (go_simp; done) | (go_simp; rfl)); intro gb128 hg w64 hbox hb; have n0_ := am_ (Kd.R_below (rx_ HO0_5) hb); have n1_ := am_ (bb_ BK125 hb); have n2_ := am_ (bb_ BK126 hb); have n3_ := am_ (bb_ BK127 hb); have n4_ := am_ (Kept.below (S := (fun k_ => P0_5_ k_)) (kx_ HK) hb); have n5_ := am_ (below_step (hy_ HB) hb); have n6_ := am_ (hbox); have n7_ := am_ ((by rw [hg]; exact (by first | exact HK.out.1 | exact (show Kept w _ (fun k_ => P0_5_ k_) from kx_ HK).1) : w.heap.size ≤ gb128)); have n8_ := am_ ((by rw [hg]; exact (below_size (hx_ HB)) : w0.heap.size ≤ gb128)); have n9_ := am_ ((by rw [hg]; exact Nat.ne_of_lt (bl_ BK125) : gb125 ≠ gb128)); have n10_ := am_ ((by rw [hg]; exact Nat.ne_of_gt (bl_ BK125) : gb128 ≠ gb125)); have n11_ := am_ ((by rw [hg]; exact Nat.ne_of_lt (bl_ BK126) : gb126 ≠ gb128)); have n12_ := am_ ((by rw [hg]; exact Nat.ne_of_gt (bl_ BK126) : gb128 ≠ gb126)); have n13_ := am_ ((by rw [hg]; exact Nat.ne_of_lt (bl_ BK127) : gb127 ≠ gb128)); have n14_ := am_ ((by rw [hg]; exact Nat.ne_of_gt (bl_ BK127) : gb128 ≠ gb127)); clear HO0_5 BK125 BK126 BK127 HK HB; have HO0_5 := n0_; have BK125 := n1_; have BK126 := n2_; have BK127 := n3_; have HK := n4_; have HB := n5_; have BK128 := n6_; have GW128 := n7_; have GE128 := n8_; have NB125_128 := n9_; have NB128_125 := n10_; have NB126_128 := n11_; have NB128_126 := n12_; have NB127_128 := n13_; have NB128_127 := n14_; clear n0_ n1_ n2_ n3_ n4_ n5_ n6_ n7_ n8_ n9_ n10_ n11_ n12_ n13_ n14_; clear hb hbox hg; have hnb65 := NB128_125.out; have hnc65 := NB125_128.out; have hnb66 := NB128_126.out; have hnc66 := NB126_128.out; have hnb67 := NB128_127.out; have hnc67 := NB127_128.out; have hcz68_0 : w64.cell? ⟨gb128, 0, none⟩ = some (.int .u64 0) := (blk_cell BK128.out 0).trans rfl; have hcz68_1 : w64.cell? ⟨gb128, 1, none⟩ = some (.int .u64 0) := (blk_cell BK128.out 1).trans rfl; have hcz68_2 : w64.cell? ⟨gb128, 2, none⟩ = some (.string (⟨#[]⟩ : ByteArray)) := (blk_cell BK128.out 2).trans rfl; have hcz68_3 : w64.cell? ⟨gb128, 3, none⟩ = some (.slice none 0 0) := (blk_cell BK128.out 3).trans rfl; have hfz68_0 := blk_frozen BK128.out 0; have hfz68_1 := blk_frozen BK128.out 1; have hfz68_2 := blk_frozen BK128.out 2; have hfz68_3 := blk_frozen BK128.out 3; have hnb69 := NB126_127.out; have hnc69 := NB127_126.out; have hcz70_0 : w64.cell? ⟨gb126, 0, none⟩ = some (.int .i64 a1_0) := (blk_cell BK126.out 0).trans rfl; have hcz70_1 : w64.cell? ⟨gb126, 1, none⟩ = some (.int .u64 a1_1) := (blk_cell BK126.out 1).trans rfl; have hcz70_2 : w64.cell? ⟨gb126, 2, none⟩ = some (.int .u64 a1_2) := (blk_cell BK126.out 2).trans rfl; have hcz70_3 : w64.cell? ⟨gb126, 3, none⟩ = some (.int .u64 a1_3) := (blk_cell BK126.out 3).trans rfl; have hcz70_4 : w64.cell? ⟨gb126, 4, none⟩ = some (.string a1_4) := (blk_cell BK126.out 4).trans rfl; have hfz70_0 := blk_frozen BK126.out 0; have hfz70_1 := blk_frozen BK126.out 1; have hfz70_2 := blk_frozen BK126.out 2; have hfz70_3 := blk_frozen BK126.out 3; have hfz70_4 := blk_frozen BK126.out 4))
      have n0_ : Aside0 (Kd.R k75 75 ((((w64.setCell ⟨gb128, 0, none⟩ (.int .u64 a0_2)).setCell ⟨gb128, 1, none⟩ (.int .u64 a0_3)).setCell ⟨gb128, 2, none⟩ (.string a0_4)).setCell ⟨gb128, 3, none⟩ (.slice Ao57 l0_5.length co57)) w0.heap.size (fun k_ => (P0_5_ k_ ∨ w.heap.size ≤ k_)) (.slice Ao57 l0_5.length co57) l0_5) := ⟨by (with_reducible repeat (first | apply Kd.R_alloc | apply Kd.R_drewN | apply Kd.R_drew)); exact Kd.R_mono (Kd.R_far (p := ⟨gb128, 3, none⟩) (Kd.R_far (p := ⟨gb128, 2, none⟩) (Kd.R_far (p := ⟨gb128, 1, none⟩) (Kd.R_far (p := ⟨gb128, 0, none⟩) (Kd.R_types HO0_5.out BK128.out (by decide)) (fun _ hk => hk.2) (.int .u64 a0_2)) (fun _ hk => hk.2) (.int .u64 a0_3)) (fun _ hk => hk.2) (.string a0_4)) (fun _ hk => hk.2) (.slice Ao57 l0_5.length co57)) (fun _ hk => hk.1)⟩
      have n1_ : Aside0 (((((w64.setCell ⟨gb128, 0, none⟩ (.int .u64 a0_2)).setCell ⟨gb128, 1, none⟩ (.int .u64 a0_3)).setCell ⟨gb128, 2, none⟩ (.string a0_4)).setCell ⟨gb128, 3, none⟩ (.slice Ao57 l0_5.length co57)).heap[gb125]? = some (.cells #[.int .u64 a0_0, .int .u64 a0_1, .int .u64 a0_2, .int .u64 a0_3, .string a0_4, .slice Ao57 l0_5.length co57] 30 (0, 0))) := ⟨by (with_reducible repeat (first | refine blk_drewN ?_ _ | refine blk_drew ?_ | refine blk_alloc ?_ _)); refine blk_far ?_ NB125_128.out _; (with_reducible repeat (first | refine blk_drewN ?_ _ | refine blk_drew ?_ | refine blk_alloc ?_ _)); refine blk_far ?_ NB125_128.out _; (with_reducible repeat (first | refine blk_drewN ?_ _ | refine blk_drew ?_ | refine blk_alloc ?_ _)); refine blk_far ?_ NB125_128.out _; (with_reducible repeat (first | refine blk_drewN ?_ _ | refine blk_drew ?_ | refine blk_alloc ?_ _)); refine blk_far ?_ NB125_128.out _; (with_reducible repeat (first | refine blk_drewN ?_ _ | refine blk_drew ?_ | refine blk_alloc ?_ _)); exact BK125.out⟩
      have n2_ : Aside0 (((((w64.setCell ⟨gb128, 0, none⟩ (.int .u64 a0_2)).setCell ⟨gb128, 1, none⟩ (.int .u64 a0_3)).setCell ⟨gb128, 2, none⟩ (.string a0_4)).setCell ⟨gb128, 3, none⟩ (.slice Ao57 l0_5.length co57)).heap[gb126]? = some (.cells #[.int .i64 a1_0, .int .u64 a1_1, .int .u64 a1_2, .int .u64 a1_3, .string a1_4] 39 (0, 0))) := ⟨by (with_reducible repeat (first | refine blk_drewN ?_ _ | refine blk_drew ?_ | refine blk_alloc ?_ _)); refine blk_far ?_ NB126_128.out _; (with_reducible repeat (first | refine blk_drewN ?_ _ | refine blk_drew ?_ | refine blk_alloc ?_ _)); refine blk_far ?_ NB126_128.out _; (with_reducible repeat (first | refine blk_drewN ?_ _ | refine blk_drew ?_ | refine blk_alloc ?_ _)); refine blk_far ?_ NB126_128.out _; (with_reducible repeat (first | refine blk_drewN ?_ _ | refine blk_drew ?_ | refine blk_alloc ?_ _)); refine blk_far ?_ NB126_128.out _; (with_reducible repeat (first | refine blk_drewN ?_ _ | refine blk_drew ?_ | refine blk_alloc ?_ _)); exact BK126.out⟩
      have n3_ : Aside0 (((((w64.setCell ⟨gb128, 0, none⟩ (.int .u64 a0_2)).setCell ⟨gb128, 1, none⟩ (.int .u64 a0_3)).setCell ⟨gb128, 2, none⟩ (.string a0_4)).setCell ⟨gb128, 3, none⟩ (.slice Ao57 l0_5.length co57)).heap[gb127]? = some (.cells #[.int .u64 0, .int .u64 0, .int .u64 0, .int .u64 0, .string (⟨#[]⟩ : ByteArray), .slice none 0 0] 30 (0, 0))) := ⟨by (with_reducible repeat (first | refine blk_drewN ?_ _ | refine blk_drew ?_ | refine blk_alloc ?_ _)); refine blk_far ?_ NB127_128.out _; (with_reducible repeat (first | refine blk_drewN ?_ _ | refine blk_drew ?_ | refine blk_alloc ?_ _)); refine blk_far ?_ NB127_128.out _; (with_reducible repeat (first | refine blk_drewN ?_ _ | refine blk_drew ?_ | refine blk_alloc ?_ _)); refine blk_far ?_ NB127_128.out _; (with_reducible repeat (first | refine blk_drewN ?_ _ | refine blk_drew ?_ | refine blk_alloc ?_ _)); refine blk_far ?_ NB127_128.out _; (with_reducible repeat (first | refine blk_drewN ?_ _ | refine blk_drew ?_ | refine blk_alloc ?_ _)); exact BK127.out⟩
      have n4_ : Aside0 (((((w64.setCell ⟨gb128, 0, none⟩ (.int .u64 a0_2)).setCell ⟨gb128, 1, none⟩ (.int .u64 a0_3)).setCell ⟨gb128, 2, none⟩ (.string a0_4)).setCell ⟨gb128, 3, none⟩ (.slice Ao57 l0_5.length co57)).heap[gb128]? = some (.cells #[.int .u64 a0_2, .int .u64 a0_3, .string a0_4, .slice Ao57 l0_5.length co57] 28 (0, 0))) := ⟨by (with_reducible repeat (first | refine blk_drewN ?_ _ | refine blk_drew ?_ | refine blk_alloc ?_ _)); refine blk_put (cs := #[.int .u64 a0_2, .int .u64 a0_3, .string a0_4, .slice none 0 0]) ?_ 3 _ rfl; (with_reducible repeat (first | refine blk_drewN ?_ _ | refine blk_drew ?_ | refine blk_alloc ?_ _)); refine blk_put (cs := #[.int .u64 a0_2, .int .u64 a0_3, .string (⟨#[]⟩ : ByteArray), .slice none 0 0]) ?_ 2 _ rfl; (with_reducible repeat (first | refine blk_drewN ?_ _ | refine blk_drew ?_ | refine blk_alloc ?_ _)); refine blk_put (cs := #[.int .u64 a0_2, .int .u64 0, .string (⟨#[]⟩ : ByteArray), .slice none 0 0]) ?_ 1 _ rfl; (with_reducible repeat (first | refine blk_drewN ?_ _ | refine blk_drew ?_ | refine blk_alloc ?_ _)); refine blk_put (cs := #[.int .u64 0, .int .u64 0, .string (⟨#[]⟩ : ByteArray), .slice none 0 0]) ?_ 0 _ rfl; (with_reducible repeat (first | refine blk_drewN ?_ _ | refine blk_drew ?_ | refine blk_alloc ?_ _)); exact BK128.out⟩
      have n5_ : Aside0 (Kept w ((((w64.setCell ⟨gb128, 0, none⟩ (.int .u64 a0_2)).setCell ⟨gb128, 1, none⟩ (.int .u64 a0_3)).setCell ⟨gb128, 2, none⟩ (.string a0_4)).setCell ⟨gb128, 3, none⟩ (.slice Ao57 l0_5.length co57)) (fun k_ => P0_5_ k_)) := ⟨kx_ HK⟩
      have n6_ : Aside0 (Below w0.heap.size w0 ((((w64.setCell ⟨gb128, 0, none⟩ (.int .u64 a0_2)).setCell ⟨gb128, 1, none⟩ (.int .u64 a0_3)).setCell ⟨gb128, 2, none⟩ (.string a0_4)).setCell ⟨gb128, 3, none⟩ (.slice Ao57 l0_5.length co57))) := ⟨hx_ HB⟩
      (try clear HO0_5)
      (try clear BK125)
      (try clear BK126)
      (try clear BK127)
      (try clear BK128)
      (try clear HK)
      (try clear HB)
      generalize ((((w64.setCell ⟨gb128, 0, none⟩ (.int .u64 a0_2)).setCell ⟨gb128, 1, none⟩ (.int .u64 a0_3)).setCell ⟨gb128, 2, none⟩ (.string a0_4)).setCell ⟨gb128, 3, none⟩ (.slice Ao57 l0_5.length co57)) = w71 at n0_ n1_ n2_ n3_ n4_ n5_ n6_ ⊢
      have HO0_5 := n0_
      have BK125 := n1_
      have BK126 := n2_
      have BK127 := n3_
      have BK128 := n4_
      have HK := n5_
      have HB := n6_
      clear n0_ n1_ n2_ n3_ n4_ n5_ n6_
      have n0_ := am_ (Kd.R_drew HO0_5.out)
      have n1_ := am_ (blk_drew BK125.out)
      have n2_ := am_ (blk_drew BK126.out)
      have n3_ := am_ (blk_drew BK127.out)
      have n4_ := am_ (blk_drew BK128.out)
      have n5_ := am_ (Kept.drew HK.out)
      have n6_ := am_ (below_drew1 HB.out)
      clear HO0_5
      clear BK125
      clear BK126
      clear BK127
      clear BK128
      clear HK
      clear HB
      have HO0_5 := n0_
      have BK125 := n1_
      have BK126 := n2_
      have BK127 := n3_
      have BK128 := n4_
      have HK := n5_
      have HB := n6_
      clear n0_ n1_ n2_ n3_ n4_ n5_ n6_
      refine start_ (n := 17) (S := fun w' => w'.cell? ⟨gb126, 0, none⟩ = some (.int .i64 a1_0) ∧ w'.cell? ⟨gb126, 1, none⟩ = some (.int .u64 a1_1) ∧ w'.cell? ⟨gb126, 2, none⟩ = some (.int .u64 a1_2) ∧ w'.cell? ⟨gb126, 3, none⟩ = some (.int .u64 a1_3) ∧ w'.cell? ⟨gb126, 4, none⟩ = some (.string a1_4) ∧ w'.cell? ⟨gb128, 0, none⟩ = some (.int .u64 a0_2) ∧ w'.cell? ⟨gb128, 1, none⟩ = some (.int .u64 a0_3) ∧ w'.cell? ⟨gb128, 2, none⟩ = some (.string a0_4) ∧ w'.cell? ⟨gb128, 3, none⟩ = some (.slice Ao57 l0_5.length co57)) (ds := []) bN0_ (by kernel_rfl) rfl rfl ⟨(blk_cell BK126.out 0).trans rfl, (blk_cell BK126.out 1).trans rfl, (blk_cell BK126.out 2).trans rfl, (blk_cell BK126.out 3).trans rfl, (blk_cell BK126.out 4).trans rfl, (blk_cell BK128.out 0).trans rfl, (blk_cell BK128.out 1).trans rfl, (blk_cell BK128.out 2).trans rfl, (blk_cell BK128.out 3).trans rfl⟩ (fun hHeld => ?_); refine with_tabW ferruleref04_Step.tab7 ferruleref04_Step.bits7 (fun HT_ HW_ => ?_)
      generalize w71.drew = w72 at HO0_5 BK125 BK126 BK127 BK128 HK HB hHeld ⊢
      refine pure_ (i := 0) (N := some 26) (v := ?_) (a' := ?_) bN1_ rfl rfl (any_of HT_.out (by kernel_rfl)) (fun _ _ _ h => h) (Or.inl ⟨by rfl, ?_⟩) ?_ ?_; rotate_left; (intro w'; go_simp; with_reducible rfl); rotate_left; (simp only [Act.put, List.setIfInBounds_toArray, List.set_cons_zero, List.set_cons_succ, i64_w, i32_w]; rfl)
      refine take_ (i := 1) (N := some 27) (v := ?_) (a' := ?_) bN2_ rfl rfl (take_ofW HT_.out HW_.out (by kernel_rfl)) (fun _ _ _ h => h) (Or.inl ⟨by rfl, ?_⟩) hHeld ?_ ?_; rotate_left; (rintro w' ⟨s0, s1, s2, s3, s4, s5, s6, s7, s8⟩; go_simp; with_reducible rfl); rotate_left; (simp only [Act.put, List.setIfInBounds_toArray, List.set_cons_zero, List.set_cons_succ, i64_w, i32_w]; rfl)
      refine take_ (i := 2) (N := some 28) (v := ?_) (a' := ?_) bN3_ rfl rfl (take_ofW HT_.out HW_.out (by kernel_rfl)) (fun _ _ _ h => h) (Or.inl ⟨by rfl, ?_⟩) hHeld ?_ ?_; rotate_left; (rintro w' ⟨s0, s1, s2, s3, s4, s5, s6, s7, s8⟩; go_simp; with_reducible rfl); rotate_left; (simp only [Act.put, List.setIfInBounds_toArray, List.set_cons_zero, List.set_cons_succ, i64_w, i32_w]; rfl)
      refine one_ (i := 3) (N := some 29) bN4_ rfl rfl (one_of HT_.out (by kernel_rfl)) (by decide) (fun K hK => ?_)
      refine goes_ Try.func54 (by kernel_rfl) rfl #[.agg #[.int .u64 a0_2, .int .u64 a0_3, .string a0_4, .slice Ao57 l0_5.length co57]] (by rfl) rfl rfl (by (try simp only [List.map_toArray, List.map_cons, List.map_nil]); first | done | rfl | (simp only [List.length_drop, List.length_take]; rfl)) ?_
      with_reducible refine (ferruleref04_Last.calls a0_2 a0_3 a0_4 _ _ l0_5 t129 _ ?side1 ?side2 A21.out).mono ?_
      (case side1 => repeat (first | exact (Kd.R_reads' HO0_5.out).2.2 | (with_reducible refine Kd.C_alloc ?_ _) | (with_reducible refine Kd.C_drewN ?_ _) | (with_reducible refine Kd.C_drew ?_)))
      (case side2 => exact (Kd.R_reads' HO0_5.out).2.1)
      rintro e w73 ⟨rfl, hb⟩
      refine ⟨_, rfl, ?_⟩
      have n0_ := am_ (Kd.R_below (rx_ HO0_5) hb)
      have n1_ := am_ (bb_ BK125 hb)
      have n2_ := am_ (bb_ BK126 hb)
      have n3_ := am_ (bb_ BK127 hb)
      have n4_ := am_ (bb_ BK128 hb)
      have n5_ := am_ (Kept.below (S := (fun k_ => P0_5_ k_)) (kx_ HK) hb)
      have n6_ := am_ (below_step (hy_ HB) hb)
      clear HO0_5
      clear BK125
      clear BK126
      clear BK127
      clear BK128
      clear HK
      clear HB
      have HO0_5 := n0_
      have BK125 := n1_
      have BK126 := n2_
      have BK127 := n3_
      have BK128 := n4_
      have HK := n5_
      have HB := n6_
      clear n0_ n1_ n2_ n3_ n4_ n5_ n6_
      (try clear hb)
      (try clear hb2)
      (try clear hk)
      (try clear hi)
      refine hK.out _ _ ⟨(blk_cell BK126.out 0).trans rfl, (blk_cell BK126.out 1).trans rfl, (blk_cell BK126.out 2).trans rfl, (blk_cell BK126.out 3).trans rfl, (blk_cell BK126.out 4).trans rfl, (blk_cell BK128.out 0).trans rfl, (blk_cell BK128.out 1).trans rfl, (blk_cell BK128.out 2).trans rfl, (blk_cell BK128.out 3).trans rfl⟩ (fun hHeld => ?_)
      clear hK K
      refine norm_ (a' := ?_) ?_ ?_
      rotate_left
      ·show Act.put _ (some 29) _ = _
       simp only [Act.put, List.setIfInBounds_toArray, List.set_cons_zero, List.set_cons_succ, i64_w, i32_w]
       rfl
      refine pure_ (i := 4) (N := some 30) (v := ?_) (a' := ?_) bN5_ rfl rfl (any_of HT_.out (by kernel_rfl)) (fun _ _ _ h => h) (Or.inl ⟨by rfl, ?_⟩) ?_ ?_; rotate_left; (intro w'; go_simp; with_reducible rfl); rotate_left; (simp only [Act.put, List.setIfInBounds_toArray, List.set_cons_zero, List.set_cons_succ, i64_w, i32_w]; rfl)
      refine pure_ (i := 5) (N := some 31) (v := ?_) (a' := ?_) bN6_ rfl rfl (any_of HT_.out (by kernel_rfl)) (fun _ _ _ h => h) (Or.inl ⟨by rfl, ?_⟩) ?_ ?_; rotate_left; (intro w'; go_simp; with_reducible rfl); rotate_left; (simp only [Act.put, List.setIfInBounds_toArray, List.set_cons_zero, List.set_cons_succ, i64_w, i32_w]; rfl)
      refine pure_ (i := 6) (N := some 32) (v := ?_) (a' := ?_) bN7_ rfl rfl (any_of HT_.out (by kernel_rfl)) (fun _ _ _ h => h) (Or.inl ⟨by rfl, ?_⟩) ?_ ?_; rotate_left; (intro w'; go_simp; with_reducible rfl); rotate_left; (simp only [Act.put, List.setIfInBounds_toArray, List.set_cons_zero, List.set_cons_succ, i64_w, i32_w]; rfl)
      refine pure_ (i := 7) (N := some 33) (v := ?_) (a' := ?_) bN8_ rfl rfl (any_of HT_.out (by kernel_rfl)) (fun _ _ _ h => h) (Or.inl ⟨by rfl, ?_⟩) ?_ ?_; rotate_left; (intro w'; go_simp; with_reducible rfl); rotate_left; (simp only [Act.put, List.setIfInBounds_toArray, List.set_cons_zero, List.set_cons_succ, i64_w, i32_w]; rfl)
      refine take_ (i := 8) (N := some 34) (v := ?_) (a' := ?_) bN9_ rfl rfl (take_ofW HT_.out HW_.out (by kernel_rfl)) (fun _ _ _ h => h) (Or.inl ⟨by rfl, ?_⟩) hHeld ?_ ?_; rotate_left; (rintro w' ⟨s0, s1, s2, s3, s4, s5, s6, s7, s8⟩; go_simp; with_reducible rfl); rotate_left; (simp only [Act.put, List.setIfInBounds_toArray, List.set_cons_zero, List.set_cons_succ, i64_w, i32_w]; rfl)
      refine pure_ (i := 9) (N := some 35) (v := ?_) (a' := ?_) bN10_ rfl rfl (any_of HT_.out (by kernel_rfl)) (fun _ _ _ h => h) (Or.inl ⟨by rfl, ?_⟩) ?_ ?_; rotate_left; (intro w'; go_simp; with_reducible rfl); rotate_left; (simp only [Act.put, List.setIfInBounds_toArray, List.set_cons_zero, List.set_cons_succ, i64_w, i32_w]; rfl)
      refine pure_ (i := 10) (N := some 36) (v := ?_) (a' := ?_) bN11_ rfl rfl (any_of HT_.out (by kernel_rfl)) (fun _ _ _ h => h) (Or.inl ⟨by rfl, ?_⟩) ?_ ?_; rotate_left; (intro w'; go_simp; with_reducible rfl); rotate_left; (simp only [Act.put, List.setIfInBounds_toArray, List.set_cons_zero, List.set_cons_succ, i64_w, i32_w]; rfl)
      refine pure_ (i := 11) (N := some 37) (v := ?_) (a' := ?_) bN12_ rfl rfl (any_of HT_.out (by kernel_rfl)) (fun _ _ _ h => h) (Or.inl ⟨by rfl, ?_⟩) ?_ ?_; rotate_left; (intro w'; go_simp; with_reducible rfl); rotate_left; (simp only [Act.put, List.setIfInBounds_toArray, List.set_cons_zero, List.set_cons_succ, i64_w, i32_w]; rfl)
      refine pure_ (i := 12) (N := some 38) (v := ?_) (a' := ?_) bN13_ rfl rfl (any_of HT_.out (by kernel_rfl)) (fun _ _ _ h => h) (Or.inl ⟨by rfl, ?_⟩) ?_ ?_; rotate_left; (intro w'; go_simp; with_reducible rfl); rotate_left; (simp only [Act.put, List.setIfInBounds_toArray, List.set_cons_zero, List.set_cons_succ, i64_w, i32_w]; rfl)
      refine pure_ (i := 13) (N := some 39) (v := ?_) (a' := ?_) bN14_ rfl rfl (any_of HT_.out (by kernel_rfl)) (fun _ _ _ h => h) (Or.inl ⟨by rfl, ?_⟩) ?_ ?_; rotate_left; (intro w'; go_simp; with_reducible rfl); rotate_left; (simp only [Act.put, List.setIfInBounds_toArray, List.set_cons_zero, List.set_cons_succ, i64_w, i32_w]; rfl)
      refine take_ (i := 14) (N := some 40) (v := ?_) (a' := ?_) bN15_ rfl rfl (take_ofW HT_.out HW_.out (by kernel_rfl)) (fun _ _ _ h => h) (Or.inl ⟨by rfl, ?_⟩) hHeld ?_ ?_; rotate_left; (rintro w' ⟨s0, s1, s2, s3, s4, s5, s6, s7, s8⟩; go_simp; with_reducible rfl); rotate_left; (simp only [Act.put, List.setIfInBounds_toArray, List.set_cons_zero, List.set_cons_succ, i64_w, i32_w]; rfl)
      refine pure_ (i := 15) (N := some 41) (v := ?_) (a' := ?_) bN16_ rfl rfl (any_of HT_.out (by kernel_rfl)) (fun _ _ _ h => h) (Or.inl ⟨by rfl, ?_⟩) ?_ ?_; rotate_left; (intro w'; go_simp; with_reducible rfl); rotate_left; (simp only [Act.put, List.setIfInBounds_toArray, List.set_cons_zero, List.set_cons_succ, i64_w, i32_w]; rfl)
      refine pure_ (i := 16) (N := some 42) (v := ?_) (a' := ?_) bN17_ rfl rfl (any_of HT_.out (by kernel_rfl)) (fun _ _ _ h => h) (Or.inl ⟨by rfl, ?_⟩) ?_ ?_; rotate_left; (intro w'; go_simp; with_reducible rfl); rotate_left; (simp only [Act.put, List.setIfInBounds_toArray, List.set_cons_zero, List.set_cons_succ, i64_w, i32_w]; rfl)
      refine done_ (done_of HT_.out (by kernel_rfl)) ?_
      have hcz74_0 : w73.cell? ⟨gb125, 0, none⟩ = some (.int .u64 a0_0) := (blk_cell BK125.out 0).trans rfl
      have hcz74_1 : w73.cell? ⟨gb125, 1, none⟩ = some (.int .u64 a0_1) := (blk_cell BK125.out 1).trans rfl
      have hcz74_2 : w73.cell? ⟨gb125, 2, none⟩ = some (.int .u64 a0_2) := (blk_cell BK125.out 2).trans rfl
      have hcz74_3 : w73.cell? ⟨gb125, 3, none⟩ = some (.int .u64 a0_3) := (blk_cell BK125.out 3).trans rfl
      have hcz74_4 : w73.cell? ⟨gb125, 4, none⟩ = some (.string a0_4) := (blk_cell BK125.out 4).trans rfl
      have hcz74_5 : w73.cell? ⟨gb125, 5, none⟩ = some (.slice Ao57 l0_5.length co57) := (blk_cell BK125.out 5).trans rfl
      have hfz74_0 := blk_frozen BK125.out 0
      have hfz74_1 := blk_frozen BK125.out 1
      have hfz74_2 := blk_frozen BK125.out 2
      have hfz74_3 := blk_frozen BK125.out 3
      have hfz74_4 := blk_frozen BK125.out 4
      have hfz74_5 := blk_frozen BK125.out 5
      have hcz75_0 : w73.cell? ⟨gb127, 0, none⟩ = some (.int .u64 0) := (blk_cell BK127.out 0).trans rfl
      have hcz75_1 : w73.cell? ⟨gb127, 1, none⟩ = some (.int .u64 0) := (blk_cell BK127.out 1).trans rfl
      have hcz75_2 : w73.cell? ⟨gb127, 2, none⟩ = some (.int .u64 0) := (blk_cell BK127.out 2).trans rfl
      have hcz75_3 : w73.cell? ⟨gb127, 3, none⟩ = some (.int .u64 0) := (blk_cell BK127.out 3).trans rfl
      have hcz75_4 : w73.cell? ⟨gb127, 4, none⟩ = some (.string (⟨#[]⟩ : ByteArray)) := (blk_cell BK127.out 4).trans rfl
      have hcz75_5 : w73.cell? ⟨gb127, 5, none⟩ = some (.slice none 0 0) := (blk_cell BK127.out 5).trans rfl
      have hfz75_0 := blk_frozen BK127.out 0
      have hfz75_1 := blk_frozen BK127.out 1
      have hfz75_2 := blk_frozen BK127.out 2
      have hfz75_3 := blk_frozen BK127.out 3
      have hfz75_4 := blk_frozen BK127.out 4
      have hfz75_5 := blk_frozen BK127.out 5
      try go_wp2
      refine bodyPost_ret (results_cell_row rfl _ _ gb127 30 #[.int .u64 a0_0, .int .u64 a0_1, .int .u64 a0_2, .int .u64 a0_3, .string a0_4, .slice Ao57 l0_5.length co57] (0, 0) _ rfl (by (with_reducible repeat (first | refine blk_drewN ?_ _ | refine blk_drew ?_ | refine blk_alloc ?_ _)); refine blk_put (cs := #[.int .u64 a0_0, .int .u64 a0_1, .int .u64 a0_2, .int .u64 a0_3, .string a0_4, .slice none 0 0]) ?_ 5 _ rfl; (with_reducible repeat (first | refine blk_drewN ?_ _ | refine blk_drew ?_ | refine blk_alloc ?_ _)); refine blk_put (cs := #[.int .u64 a0_0, .int .u64 a0_1, .int .u64 a0_2, .int .u64 a0_3, .string (⟨#[]⟩ : ByteArray), .slice none 0 0]) ?_ 4 _ rfl; (with_reducible repeat (first | refine blk_drewN ?_ _ | refine blk_drew ?_ | refine blk_alloc ?_ _)); refine blk_put (cs := #[.int .u64 a0_0, .int .u64 a0_1, .int .u64 a0_2, .int .u64 0, .string (⟨#[]⟩ : ByteArray), .slice none 0 0]) ?_ 3 _ rfl; (with_reducible repeat (first | refine blk_drewN ?_ _ | refine blk_drew ?_ | refine blk_alloc ?_ _)); refine blk_put (cs := #[.int .u64 a0_0, .int .u64 a0_1, .int .u64 0, .int .u64 0, .string (⟨#[]⟩ : ByteArray), .slice none 0 0]) ?_ 2 _ rfl; (with_reducible repeat (first | refine blk_drewN ?_ _ | refine blk_drew ?_ | refine blk_alloc ?_ _)); refine blk_put (cs := #[.int .u64 a0_0, .int .u64 0, .int .u64 0, .int .u64 0, .string (⟨#[]⟩ : ByteArray), .slice none 0 0]) ?_ 1 _ rfl; (with_reducible repeat (first | refine blk_drewN ?_ _ | refine blk_drew ?_ | refine blk_alloc ?_ _)); refine blk_put (cs := #[.int .u64 0, .int .u64 0, .int .u64 0, .int .u64 0, .string (⟨#[]⟩ : ByteArray), .slice none 0 0]) ?_ 0 _ rfl; (with_reducible repeat (first | refine blk_drewN ?_ _ | refine blk_drew ?_ | refine blk_alloc ?_ _)); exact BK127.out) Try.underlying30 rfl (by kernel_rfl)) rfl ?_
      exact ⟨_, by first | rfl | (simp [errW_none, errW_some] <;> rfl) | (simp [*, errW_none, errW_some] <;> rfl), by (with_reducible repeat (first | apply Kd.R_alloc | apply Kd.R_drewN | apply Kd.R_drew)); exact Kd.R_mono (Kd.R_far (p := ⟨gb127, 5, none⟩) (Kd.R_far (p := ⟨gb127, 4, none⟩) (Kd.R_far (p := ⟨gb127, 3, none⟩) (Kd.R_far (p := ⟨gb127, 2, none⟩) (Kd.R_far (p := ⟨gb127, 1, none⟩) (Kd.R_far (p := ⟨gb127, 0, none⟩) (Kd.R_types HO0_5.out BK127.out (by decide)) (fun _ hk => hk.2) (.int .u64 a0_0)) (fun _ hk => hk.2) (.int .u64 a0_1)) (fun _ hk => hk.2) (.int .u64 a0_2)) (fun _ hk => hk.2) (.int .u64 a0_3)) (fun _ hk => hk.2) (.string a0_4)) (fun _ hk => hk.2) (.slice Ao57 l0_5.length co57)) (fun _ hk => hk.1), hx_ HB, kx_ HK⟩
    ·rw [if_neg c23] at H
     have c23b0 : decide ((l0_5.length : Int) < 1024) = false := decide_eq_false c23
     have c23b1 : decide (l0_5.length < 1024) = false := decide_eq_false (by omega)
     clear c23
     simp only [Option.some.injEq, Prod.mk.injEq] at H
     obtain ⟨rfl, rfl, rfl, rfl, rfl, rfl⟩ := H
     obtain ⟨Ao76, co76, eo76⟩ := Kd.R_slice HO0_5.out
     subst eo76
     go_enter Try.func44, Try.ntmps44
     try go_wp2_with (first | ((with_reducible refine gate_dst (N := 2) rfl ?_); (try (refine gate_guard (by rfl) ?_; dsimp only)); refine box_event ?hg (N := 2) ?hd (cs := #[.int .u64 a0_0, .int .u64 a0_1, .int .u64 a0_2, .int .u64 a0_3, .string a0_4, .slice Ao76 l0_5.length co76]) (t := 30) ?hr ?_; (case hd => rfl); (case hg => rfl); (case hr => first | (go_simp; done) | (go_simp; rfl)); intro gb125 hg w77 hbox hb; have n0_ := am_ (Kd.R_below (rx_ HO0_5) hb); have n1_ := am_ (Kept.below (S := (fun k_ => P0_5_ k_)) (kx_ HK) hb); have n2_ := am_ (below_step (hy_ HB) hb); have n3_ := am_ (hbox); have n4_ := am_ ((by rw [hg]; exact (by first | exact HK.out.1 | exact (show Kept w _ (fun k_ => P0_5_ k_) from kx_ HK).1) : w.heap.size ≤ gb125)); have n5_ := am_ ((by rw [hg]; exact (below_size (hx_ HB)) : w0.heap.size ≤ gb125)); clear HO0_5 HK HB; have HO0_5 := n0_; have HK := n1_; have HB := n2_; have BK125 := n3_; have GW125 := n4_; have GE125 := n5_; clear n0_ n1_ n2_ n3_ n4_ n5_; clear hb hbox hg) | ((with_reducible refine gate_dst (N := 3) rfl ?_); (try (refine gate_guard (by rfl) ?_; dsimp only)); refine box_event ?hg (N := 3) ?hd (cs := #[.int .i64 a1_0, .int .u64 a1_1, .int .u64 a1_2, .int .u64 a1_3, .string a1_4]) (t := 39) ?hr ?_; (case hd => rfl); (case hg => rfl); (case hr => first | (go_simp; done) | (go_simp; rfl)); intro gb126 hg w78 hbox hb; have n0_ := am_ (Kd.R_below (rx_ HO0_5) hb); have n1_ := am_ (bb_ BK125 hb); have n2_ := am_ (Kept.below (S := (fun k_ => P0_5_ k_)) (kx_ HK) hb); have n3_ := am_ (below_step (hy_ HB) hb); have n4_ := am_ (hbox); have n5_ := am_ ((by rw [hg]; exact (by first | exact HK.out.1 | exact (show Kept w _ (fun k_ => P0_5_ k_) from kx_ HK).1) : w.heap.size ≤ gb126)); have n6_ := am_ ((by rw [hg]; exact (below_size (hx_ HB)) : w0.heap.size ≤ gb126)); have n7_ := am_ ((by rw [hg]; exact Nat.ne_of_lt (bl_ BK125) : gb125 ≠ gb126)); have n8_ := am_ ((by rw [hg]; exact Nat.ne_of_gt (bl_ BK125) : gb126 ≠ gb125)); clear HO0_5 BK125 HK HB; have HO0_5 := n0_; have BK125 := n1_; have HK := n2_; have HB := n3_; have BK126 := n4_; have GW126 := n5_; have GE126 := n6_; have NB125_126 := n7_; have NB126_125 := n8_; clear n0_ n1_ n2_ n3_ n4_ n5_ n6_ n7_ n8_; clear hb hbox hg) | ((with_reducible refine gate_dst (N := 4) rfl ?_); (try (refine gate_guard (by rfl) ?_; dsimp only)); refine box_event ?hg (N := 4) ?hd (cs := #[.int .u64 0, .int .u64 0, .int .u64 0, .int .u64 0, .string (⟨#[]⟩ : ByteArray), .slice none 0 0]) (t := 30) ?hr ?_; (case hd => rfl); (case hg => rfl); (case hr => first | (go_simp; done) | (go_simp; rfl)); intro gb127 hg w79 hbox hb; have n0_ := am_ (Kd.R_below (rx_ HO0_5) hb); have n1_ := am_ (bb_ BK125 hb); have n2_ := am_ (bb_ BK126 hb); have n3_ := am_ (Kept.below (S := (fun k_ => P0_5_ k_)) (kx_ HK) hb); have n4_ := am_ (below_step (hy_ HB) hb); have n5_ := am_ (hbox); have n6_ := am_ ((by rw [hg]; exact (by first | exact HK.out.1 | exact (show Kept w _ (fun k_ => P0_5_ k_) from kx_ HK).1) : w.heap.size ≤ gb127)); have n7_ := am_ ((by rw [hg]; exact (below_size (hx_ HB)) : w0.heap.size ≤ gb127)); have n8_ := am_ ((by rw [hg]; exact Nat.ne_of_lt (bl_ BK125) : gb125 ≠ gb127)); have n9_ := am_ ((by rw [hg]; exact Nat.ne_of_gt (bl_ BK125) : gb127 ≠ gb125)); have n10_ := am_ ((by rw [hg]; exact Nat.ne_of_lt (bl_ BK126) : gb126 ≠ gb127)); have n11_ := am_ ((by rw [hg]; exact Nat.ne_of_gt (bl_ BK126) : gb127 ≠ gb126)); clear HO0_5 BK125 BK126 HK HB; have HO0_5 := n0_; have BK125 := n1_; have BK126 := n2_; have HK := n3_; have HB := n4_; have BK127 := n5_; have GW127 := n6_; have GE127 := n7_; have NB125_127 := n8_; have NB127_125 := n9_; have NB126_127 := n10_; have NB127_126 := n11_; clear n0_ n1_ n2_ n3_ n4_ n5_ n6_ n7_ n8_ n9_ n10_ n11_; clear hb hbox hg; have hnb80 := NB125_126.out; have hnc80 := NB126_125.out; have hnb81 := NB125_127.out; have hnc81 := NB127_125.out; have hcz82_0 : w79.cell? ⟨gb125, 0, none⟩ = some (.int .u64 a0_0) := (blk_cell BK125.out 0).trans rfl; have hcz82_1 : w79.cell? ⟨gb125, 1, none⟩ = some (.int .u64 a0_1) := (blk_cell BK125.out 1).trans rfl; have hcz82_2 : w79.cell? ⟨gb125, 2, none⟩ = some (.int .u64 a0_2) := (blk_cell BK125.out 2).trans rfl; have hcz82_3 : w79.cell? ⟨gb125, 3, none⟩ = some (.int .u64 a0_3) := (blk_cell BK125.out 3).trans rfl; have hcz82_4 : w79.cell? ⟨gb125, 4, none⟩ = some (.string a0_4) := (blk_cell BK125.out 4).trans rfl; have hcz82_5 : w79.cell? ⟨gb125, 5, none⟩ = some (.slice Ao76 l0_5.length co76) := (blk_cell BK125.out 5).trans rfl; have hfz82_0 := blk_frozen BK125.out 0; have hfz82_1 := blk_frozen BK125.out 1; have hfz82_2 := blk_frozen BK125.out 2; have hfz82_3 := blk_frozen BK125.out 3; have hfz82_4 := blk_frozen BK125.out 4; have hfz82_5 := blk_frozen BK125.out 5) | ((with_reducible refine gate_dst (N := 5) rfl ?_); (try (refine gate_guard (by rfl) ?_; dsimp only)); refine box_event ?hg (N := 5) ?hd (cs := #[.int .u64 0, .int .u64 0, .string (⟨#[]⟩ : ByteArray), .slice none 0 0]) (t := 28) ?hr ?_; (case hd => rfl); (case hg => rfl); (case hr => first | (go_simp; done) | (go_simp; rfl)); intro gb128 hg w83 hbox hb; have n0_ := am_ (Kd.R_below (rx_ HO0_5) hb); have n1_ := am_ (bb_ BK125 hb); have n2_ := am_ (bb_ BK126 hb); have n3_ := am_ (bb_ BK127 hb); have n4_ := am_ (Kept.below (S := (fun k_ => P0_5_ k_)) (kx_ HK) hb); have n5_ := am_ (below_step (hy_ HB) hb); have n6_ := am_ (hbox); have n7_ := am_ ((by rw [hg]; exact (by first | exact HK.out.1 | exact (show Kept w _ (fun k_ => P0_5_ k_) from kx_ HK).1) : w.heap.size ≤ gb128)); have n8_ := am_ ((by rw [hg]; exact (below_size (hx_ HB)) : w0.heap.size ≤ gb128)); have n9_ := am_ ((by rw [hg]; exact Nat.ne_of_lt (bl_ BK125) : gb125 ≠ gb128)); have n10_ := am_ ((by rw [hg]; exact Nat.ne_of_gt (bl_ BK125) : gb128 ≠ gb125)); have n11_ := am_ ((by rw [hg]; exact Nat.ne_of_lt (bl_ BK126) : gb126 ≠ gb128)); have n12_ := am_ ((by rw [hg]; exact Nat.ne_of_gt (bl_ BK126) : gb128 ≠ gb126)); have n13_ := am_ ((by rw [hg]; exact Nat.ne_of_lt (bl_ BK127) : gb127 ≠ gb128)); have n14_ := am_ ((by rw [hg]; exact Nat.ne_of_gt (bl_ BK127) : gb128 ≠ gb127)); clear HO0_5 BK125 BK126 BK127 HK HB; have HO0_5 := n0_; have BK125 := n1_; have BK126 := n2_; have BK127 := n3_; have HK := n4_; have HB := n5_; have BK128 := n6_; have GW128 := n7_; have GE128 := n8_; have NB125_128 := n9_; have NB128_125 := n10_; have NB126_128 := n11_; have NB128_126 := n12_; have NB127_128 := n13_; have NB128_127 := n14_; clear n0_ n1_ n2_ n3_ n4_ n5_ n6_ n7_ n8_ n9_ n10_ n11_ n12_ n13_ n14_; clear hb hbox hg; have hnb84 := NB128_125.out; have hnc84 := NB125_128.out; have hnb85 := NB128_126.out; have hnc85 := NB126_128.out; have hnb86 := NB128_127.out; have hnc86 := NB127_128.out; have hcz87_0 : w83.cell? ⟨gb128, 0, none⟩ = some (.int .u64 0) := (blk_cell BK128.out 0).trans rfl; have hcz87_1 : w83.cell? ⟨gb128, 1, none⟩ = some (.int .u64 0) := (blk_cell BK128.out 1).trans rfl; have hcz87_2 : w83.cell? ⟨gb128, 2, none⟩ = some (.string (⟨#[]⟩ : ByteArray)) := (blk_cell BK128.out 2).trans rfl; have hcz87_3 : w83.cell? ⟨gb128, 3, none⟩ = some (.slice none 0 0) := (blk_cell BK128.out 3).trans rfl; have hfz87_0 := blk_frozen BK128.out 0; have hfz87_1 := blk_frozen BK128.out 1; have hfz87_2 := blk_frozen BK128.out 2; have hfz87_3 := blk_frozen BK128.out 3; have hnb88 := NB126_127.out; have hnc88 := NB127_126.out; have hcz89_0 : w83.cell? ⟨gb126, 0, none⟩ = some (.int .i64 a1_0) := (blk_cell BK126.out 0).trans rfl; have hcz89_1 : w83.cell? ⟨gb126, 1, none⟩ = some (.int .u64 a1_1) := (blk_cell BK126.out 1).trans rfl; have hcz89_2 : w83.cell? ⟨gb126, 2, none⟩ = some (.int .u64 a1_2) := (blk_cell BK126.out 2).trans rfl; have hcz89_3 : w83.cell? ⟨gb126, 3, none⟩ = some (.int .u64 a1_3) := (blk_cell BK126.out 3).trans rfl; have hcz89_4 : w83.cell? ⟨gb126, 4, none⟩ = some (.string a1_4) := (blk_cell BK126.out 4).trans rfl; have hfz89_0 := blk_frozen BK126.out 0; have hfz89_1 := blk_frozen BK126.out 1; have hfz89_2 := blk_frozen BK126.out 2; have hfz89_3 := blk_frozen BK126.out 3; have hfz89_4 := blk_frozen BK126.out 4))
     have n0_ : Aside0 (Kd.R k75 75 ((((w83.setCell ⟨gb128, 0, none⟩ (.int .u64 a0_2)).setCell ⟨gb128, 1, none⟩ (.int .u64 a0_3)).setCell ⟨gb128, 2, none⟩ (.string a0_4)).setCell ⟨gb128, 3, none⟩ (.slice Ao76 l0_5.length co76)) w0.heap.size (fun k_ => (P0_5_ k_ ∨ w.heap.size ≤ k_)) (.slice Ao76 l0_5.length co76) l0_5) := ⟨by (with_reducible repeat (first | apply Kd.R_alloc | apply Kd.R_drewN | apply Kd.R_drew)); exact Kd.R_mono (Kd.R_far (p := ⟨gb128, 3, none⟩) (Kd.R_far (p := ⟨gb128, 2, none⟩) (Kd.R_far (p := ⟨gb128, 1, none⟩) (Kd.R_far (p := ⟨gb128, 0, none⟩) (Kd.R_types HO0_5.out BK128.out (by decide)) (fun _ hk => hk.2) (.int .u64 a0_2)) (fun _ hk => hk.2) (.int .u64 a0_3)) (fun _ hk => hk.2) (.string a0_4)) (fun _ hk => hk.2) (.slice Ao76 l0_5.length co76)) (fun _ hk => hk.1)⟩
     have n1_ : Aside0 (((((w83.setCell ⟨gb128, 0, none⟩ (.int .u64 a0_2)).setCell ⟨gb128, 1, none⟩ (.int .u64 a0_3)).setCell ⟨gb128, 2, none⟩ (.string a0_4)).setCell ⟨gb128, 3, none⟩ (.slice Ao76 l0_5.length co76)).heap[gb125]? = some (.cells #[.int .u64 a0_0, .int .u64 a0_1, .int .u64 a0_2, .int .u64 a0_3, .string a0_4, .slice Ao76 l0_5.length co76] 30 (0, 0))) := ⟨by (with_reducible repeat (first | refine blk_drewN ?_ _ | refine blk_drew ?_ | refine blk_alloc ?_ _)); refine blk_far ?_ NB125_128.out _; (with_reducible repeat (first | refine blk_drewN ?_ _ | refine blk_drew ?_ | refine blk_alloc ?_ _)); refine blk_far ?_ NB125_128.out _; (with_reducible repeat (first | refine blk_drewN ?_ _ | refine blk_drew ?_ | refine blk_alloc ?_ _)); refine blk_far ?_ NB125_128.out _; (with_reducible repeat (first | refine blk_drewN ?_ _ | refine blk_drew ?_ | refine blk_alloc ?_ _)); refine blk_far ?_ NB125_128.out _; (with_reducible repeat (first | refine blk_drewN ?_ _ | refine blk_drew ?_ | refine blk_alloc ?_ _)); exact BK125.out⟩
     have n2_ : Aside0 (((((w83.setCell ⟨gb128, 0, none⟩ (.int .u64 a0_2)).setCell ⟨gb128, 1, none⟩ (.int .u64 a0_3)).setCell ⟨gb128, 2, none⟩ (.string a0_4)).setCell ⟨gb128, 3, none⟩ (.slice Ao76 l0_5.length co76)).heap[gb126]? = some (.cells #[.int .i64 a1_0, .int .u64 a1_1, .int .u64 a1_2, .int .u64 a1_3, .string a1_4] 39 (0, 0))) := ⟨by (with_reducible repeat (first | refine blk_drewN ?_ _ | refine blk_drew ?_ | refine blk_alloc ?_ _)); refine blk_far ?_ NB126_128.out _; (with_reducible repeat (first | refine blk_drewN ?_ _ | refine blk_drew ?_ | refine blk_alloc ?_ _)); refine blk_far ?_ NB126_128.out _; (with_reducible repeat (first | refine blk_drewN ?_ _ | refine blk_drew ?_ | refine blk_alloc ?_ _)); refine blk_far ?_ NB126_128.out _; (with_reducible repeat (first | refine blk_drewN ?_ _ | refine blk_drew ?_ | refine blk_alloc ?_ _)); refine blk_far ?_ NB126_128.out _; (with_reducible repeat (first | refine blk_drewN ?_ _ | refine blk_drew ?_ | refine blk_alloc ?_ _)); exact BK126.out⟩
     have n3_ : Aside0 (((((w83.setCell ⟨gb128, 0, none⟩ (.int .u64 a0_2)).setCell ⟨gb128, 1, none⟩ (.int .u64 a0_3)).setCell ⟨gb128, 2, none⟩ (.string a0_4)).setCell ⟨gb128, 3, none⟩ (.slice Ao76 l0_5.length co76)).heap[gb127]? = some (.cells #[.int .u64 0, .int .u64 0, .int .u64 0, .int .u64 0, .string (⟨#[]⟩ : ByteArray), .slice none 0 0] 30 (0, 0))) := ⟨by (with_reducible repeat (first | refine blk_drewN ?_ _ | refine blk_drew ?_ | refine blk_alloc ?_ _)); refine blk_far ?_ NB127_128.out _; (with_reducible repeat (first | refine blk_drewN ?_ _ | refine blk_drew ?_ | refine blk_alloc ?_ _)); refine blk_far ?_ NB127_128.out _; (with_reducible repeat (first | refine blk_drewN ?_ _ | refine blk_drew ?_ | refine blk_alloc ?_ _)); refine blk_far ?_ NB127_128.out _; (with_reducible repeat (first | refine blk_drewN ?_ _ | refine blk_drew ?_ | refine blk_alloc ?_ _)); refine blk_far ?_ NB127_128.out _; (with_reducible repeat (first | refine blk_drewN ?_ _ | refine blk_drew ?_ | refine blk_alloc ?_ _)); exact BK127.out⟩
     have n4_ : Aside0 (((((w83.setCell ⟨gb128, 0, none⟩ (.int .u64 a0_2)).setCell ⟨gb128, 1, none⟩ (.int .u64 a0_3)).setCell ⟨gb128, 2, none⟩ (.string a0_4)).setCell ⟨gb128, 3, none⟩ (.slice Ao76 l0_5.length co76)).heap[gb128]? = some (.cells #[.int .u64 a0_2, .int .u64 a0_3, .string a0_4, .slice Ao76 l0_5.length co76] 28 (0, 0))) := ⟨by (with_reducible repeat (first | refine blk_drewN ?_ _ | refine blk_drew ?_ | refine blk_alloc ?_ _)); refine blk_put (cs := #[.int .u64 a0_2, .int .u64 a0_3, .string a0_4, .slice none 0 0]) ?_ 3 _ rfl; (with_reducible repeat (first | refine blk_drewN ?_ _ | refine blk_drew ?_ | refine blk_alloc ?_ _)); refine blk_put (cs := #[.int .u64 a0_2, .int .u64 a0_3, .string (⟨#[]⟩ : ByteArray), .slice none 0 0]) ?_ 2 _ rfl; (with_reducible repeat (first | refine blk_drewN ?_ _ | refine blk_drew ?_ | refine blk_alloc ?_ _)); refine blk_put (cs := #[.int .u64 a0_2, .int .u64 0, .string (⟨#[]⟩ : ByteArray), .slice none 0 0]) ?_ 1 _ rfl; (with_reducible repeat (first | refine blk_drewN ?_ _ | refine blk_drew ?_ | refine blk_alloc ?_ _)); refine blk_put (cs := #[.int .u64 0, .int .u64 0, .string (⟨#[]⟩ : ByteArray), .slice none 0 0]) ?_ 0 _ rfl; (with_reducible repeat (first | refine blk_drewN ?_ _ | refine blk_drew ?_ | refine blk_alloc ?_ _)); exact BK128.out⟩
     have n5_ : Aside0 (Kept w ((((w83.setCell ⟨gb128, 0, none⟩ (.int .u64 a0_2)).setCell ⟨gb128, 1, none⟩ (.int .u64 a0_3)).setCell ⟨gb128, 2, none⟩ (.string a0_4)).setCell ⟨gb128, 3, none⟩ (.slice Ao76 l0_5.length co76)) (fun k_ => P0_5_ k_)) := ⟨kx_ HK⟩
     have n6_ : Aside0 (Below w0.heap.size w0 ((((w83.setCell ⟨gb128, 0, none⟩ (.int .u64 a0_2)).setCell ⟨gb128, 1, none⟩ (.int .u64 a0_3)).setCell ⟨gb128, 2, none⟩ (.string a0_4)).setCell ⟨gb128, 3, none⟩ (.slice Ao76 l0_5.length co76))) := ⟨hx_ HB⟩
     (try clear HO0_5)
     (try clear BK125)
     (try clear BK126)
     (try clear BK127)
     (try clear BK128)
     (try clear HK)
     (try clear HB)
     generalize ((((w83.setCell ⟨gb128, 0, none⟩ (.int .u64 a0_2)).setCell ⟨gb128, 1, none⟩ (.int .u64 a0_3)).setCell ⟨gb128, 2, none⟩ (.string a0_4)).setCell ⟨gb128, 3, none⟩ (.slice Ao76 l0_5.length co76)) = w90 at n0_ n1_ n2_ n3_ n4_ n5_ n6_ ⊢
     have HO0_5 := n0_
     have BK125 := n1_
     have BK126 := n2_
     have BK127 := n3_
     have BK128 := n4_
     have HK := n5_
     have HB := n6_
     clear n0_ n1_ n2_ n3_ n4_ n5_ n6_
     have n0_ := am_ (Kd.R_drew HO0_5.out)
     have n1_ := am_ (blk_drew BK125.out)
     have n2_ := am_ (blk_drew BK126.out)
     have n3_ := am_ (blk_drew BK127.out)
     have n4_ := am_ (blk_drew BK128.out)
     have n5_ := am_ (Kept.drew HK.out)
     have n6_ := am_ (below_drew1 HB.out)
     clear HO0_5
     clear BK125
     clear BK126
     clear BK127
     clear BK128
     clear HK
     clear HB
     have HO0_5 := n0_
     have BK125 := n1_
     have BK126 := n2_
     have BK127 := n3_
     have BK128 := n4_
     have HK := n5_
     have HB := n6_
     clear n0_ n1_ n2_ n3_ n4_ n5_ n6_
     refine start_ (n := 17) (S := fun w' => w'.cell? ⟨gb126, 0, none⟩ = some (.int .i64 a1_0) ∧ w'.cell? ⟨gb126, 1, none⟩ = some (.int .u64 a1_1) ∧ w'.cell? ⟨gb126, 2, none⟩ = some (.int .u64 a1_2) ∧ w'.cell? ⟨gb126, 3, none⟩ = some (.int .u64 a1_3) ∧ w'.cell? ⟨gb126, 4, none⟩ = some (.string a1_4) ∧ w'.cell? ⟨gb128, 0, none⟩ = some (.int .u64 a0_2) ∧ w'.cell? ⟨gb128, 1, none⟩ = some (.int .u64 a0_3) ∧ w'.cell? ⟨gb128, 2, none⟩ = some (.string a0_4) ∧ w'.cell? ⟨gb128, 3, none⟩ = some (.slice Ao76 l0_5.length co76)) (ds := []) bN0_ (by kernel_rfl) rfl rfl ⟨(blk_cell BK126.out 0).trans rfl, (blk_cell BK126.out 1).trans rfl, (blk_cell BK126.out 2).trans rfl, (blk_cell BK126.out 3).trans rfl, (blk_cell BK126.out 4).trans rfl, (blk_cell BK128.out 0).trans rfl, (blk_cell BK128.out 1).trans rfl, (blk_cell BK128.out 2).trans rfl, (blk_cell BK128.out 3).trans rfl⟩ (fun hHeld => ?_); refine with_tabW ferruleref04_Step.tab7 ferruleref04_Step.bits7 (fun HT_ HW_ => ?_)
     generalize w90.drew = w91 at HO0_5 BK125 BK126 BK127 BK128 HK HB hHeld ⊢
     refine pure_ (i := 0) (N := some 26) (v := ?_) (a' := ?_) bN1_ rfl rfl (any_of HT_.out (by kernel_rfl)) (fun _ _ _ h => h) (Or.inl ⟨by rfl, ?_⟩) ?_ ?_; rotate_left; (intro w'; go_simp; with_reducible rfl); rotate_left; (simp only [Act.put, List.setIfInBounds_toArray, List.set_cons_zero, List.set_cons_succ, i64_w, i32_w]; rfl)
     refine take_ (i := 1) (N := some 27) (v := ?_) (a' := ?_) bN2_ rfl rfl (take_ofW HT_.out HW_.out (by kernel_rfl)) (fun _ _ _ h => h) (Or.inl ⟨by rfl, ?_⟩) hHeld ?_ ?_; rotate_left; (rintro w' ⟨s0, s1, s2, s3, s4, s5, s6, s7, s8⟩; go_simp; with_reducible rfl); rotate_left; (simp only [Act.put, List.setIfInBounds_toArray, List.set_cons_zero, List.set_cons_succ, i64_w, i32_w]; rfl)
     refine take_ (i := 2) (N := some 28) (v := ?_) (a' := ?_) bN3_ rfl rfl (take_ofW HT_.out HW_.out (by kernel_rfl)) (fun _ _ _ h => h) (Or.inl ⟨by rfl, ?_⟩) hHeld ?_ ?_; rotate_left; (rintro w' ⟨s0, s1, s2, s3, s4, s5, s6, s7, s8⟩; go_simp; with_reducible rfl); rotate_left; (simp only [Act.put, List.setIfInBounds_toArray, List.set_cons_zero, List.set_cons_succ, i64_w, i32_w]; rfl)
     refine one_ (i := 3) (N := some 29) bN4_ rfl rfl (one_of HT_.out (by kernel_rfl)) (by decide) (fun K hK => ?_)
     refine goes_ Try.func54 (by kernel_rfl) rfl #[.agg #[.int .u64 a0_2, .int .u64 a0_3, .string a0_4, .slice Ao76 l0_5.length co76]] (by rfl) rfl rfl (by (try simp only [List.map_toArray, List.map_cons, List.map_nil]); first | done | rfl | (simp only [List.length_drop, List.length_take]; rfl)) ?_
     with_reducible refine (ferruleref04_Last.calls a0_2 a0_3 a0_4 _ _ l0_5 t129 _ ?side1 ?side2 A21.out).mono ?_
     (case side1 => repeat (first | exact (Kd.R_reads' HO0_5.out).2.2 | (with_reducible refine Kd.C_alloc ?_ _) | (with_reducible refine Kd.C_drewN ?_ _) | (with_reducible refine Kd.C_drew ?_)))
     (case side2 => exact (Kd.R_reads' HO0_5.out).2.1)
     rintro e w92 ⟨rfl, hb⟩
     refine ⟨_, rfl, ?_⟩
     have n0_ := am_ (Kd.R_below (rx_ HO0_5) hb)
     have n1_ := am_ (bb_ BK125 hb)
     have n2_ := am_ (bb_ BK126 hb)
     have n3_ := am_ (bb_ BK127 hb)
     have n4_ := am_ (bb_ BK128 hb)
     have n5_ := am_ (Kept.below (S := (fun k_ => P0_5_ k_)) (kx_ HK) hb)
     have n6_ := am_ (below_step (hy_ HB) hb)
     clear HO0_5
     clear BK125
     clear BK126
     clear BK127
     clear BK128
     clear HK
     clear HB
     have HO0_5 := n0_
     have BK125 := n1_
     have BK126 := n2_
     have BK127 := n3_
     have BK128 := n4_
     have HK := n5_
     have HB := n6_
     clear n0_ n1_ n2_ n3_ n4_ n5_ n6_
     (try clear hb)
     (try clear hb2)
     (try clear hk)
     (try clear hi)
     refine hK.out _ _ ⟨(blk_cell BK126.out 0).trans rfl, (blk_cell BK126.out 1).trans rfl, (blk_cell BK126.out 2).trans rfl, (blk_cell BK126.out 3).trans rfl, (blk_cell BK126.out 4).trans rfl, (blk_cell BK128.out 0).trans rfl, (blk_cell BK128.out 1).trans rfl, (blk_cell BK128.out 2).trans rfl, (blk_cell BK128.out 3).trans rfl⟩ (fun hHeld => ?_)
     clear hK K
     refine norm_ (a' := ?_) ?_ ?_
     rotate_left
     ·show Act.put _ (some 29) _ = _
      simp only [Act.put, List.setIfInBounds_toArray, List.set_cons_zero, List.set_cons_succ, i64_w, i32_w]
      rfl
     refine pure_ (i := 4) (N := some 30) (v := ?_) (a' := ?_) bN5_ rfl rfl (any_of HT_.out (by kernel_rfl)) (fun _ _ _ h => h) (Or.inl ⟨by rfl, ?_⟩) ?_ ?_; rotate_left; (intro w'; go_simp; with_reducible rfl); rotate_left; (simp only [Act.put, List.setIfInBounds_toArray, List.set_cons_zero, List.set_cons_succ, i64_w, i32_w]; rfl)
     refine pure_ (i := 5) (N := some 31) (v := ?_) (a' := ?_) bN6_ rfl rfl (any_of HT_.out (by kernel_rfl)) (fun _ _ _ h => h) (Or.inl ⟨by rfl, ?_⟩) ?_ ?_; rotate_left; (intro w'; go_simp; with_reducible rfl); rotate_left; (simp only [Act.put, List.setIfInBounds_toArray, List.set_cons_zero, List.set_cons_succ, i64_w, i32_w]; rfl)
     refine pure_ (i := 6) (N := some 32) (v := ?_) (a' := ?_) bN7_ rfl rfl (any_of HT_.out (by kernel_rfl)) (fun _ _ _ h => h) (Or.inl ⟨by rfl, ?_⟩) ?_ ?_; rotate_left; (intro w'; go_simp; with_reducible rfl); rotate_left; (simp only [Act.put, List.setIfInBounds_toArray, List.set_cons_zero, List.set_cons_succ, i64_w, i32_w]; rfl)
     refine pure_ (i := 7) (N := some 33) (v := ?_) (a' := ?_) bN8_ rfl rfl (any_of HT_.out (by kernel_rfl)) (fun _ _ _ h => h) (Or.inl ⟨by rfl, ?_⟩) ?_ ?_; rotate_left; (intro w'; go_simp; with_reducible rfl); rotate_left; (simp only [Act.put, List.setIfInBounds_toArray, List.set_cons_zero, List.set_cons_succ, i64_w, i32_w]; rfl)
     refine take_ (i := 8) (N := some 34) (v := ?_) (a' := ?_) bN9_ rfl rfl (take_ofW HT_.out HW_.out (by kernel_rfl)) (fun _ _ _ h => h) (Or.inl ⟨by rfl, ?_⟩) hHeld ?_ ?_; rotate_left; (rintro w' ⟨s0, s1, s2, s3, s4, s5, s6, s7, s8⟩; go_simp; with_reducible rfl); rotate_left; (simp only [Act.put, List.setIfInBounds_toArray, List.set_cons_zero, List.set_cons_succ, i64_w, i32_w]; rfl)
     refine pure_ (i := 9) (N := some 35) (v := ?_) (a' := ?_) bN10_ rfl rfl (any_of HT_.out (by kernel_rfl)) (fun _ _ _ h => h) (Or.inl ⟨by rfl, ?_⟩) ?_ ?_; rotate_left; (intro w'; go_simp; with_reducible rfl); rotate_left; (simp only [Act.put, List.setIfInBounds_toArray, List.set_cons_zero, List.set_cons_succ, i64_w, i32_w]; rfl)
     refine pure_ (i := 10) (N := some 36) (v := ?_) (a' := ?_) bN11_ rfl rfl (any_of HT_.out (by kernel_rfl)) (fun _ _ _ h => h) (Or.inl ⟨by rfl, ?_⟩) ?_ ?_; rotate_left; (intro w'; go_simp; with_reducible rfl); rotate_left; (simp only [Act.put, List.setIfInBounds_toArray, List.set_cons_zero, List.set_cons_succ, i64_w, i32_w]; rfl)
     refine pure_ (i := 11) (N := some 37) (v := ?_) (a' := ?_) bN12_ rfl rfl (any_of HT_.out (by kernel_rfl)) (fun _ _ _ h => h) (Or.inl ⟨by rfl, ?_⟩) ?_ ?_; rotate_left; (intro w'; go_simp; with_reducible rfl); rotate_left; (simp only [Act.put, List.setIfInBounds_toArray, List.set_cons_zero, List.set_cons_succ, i64_w, i32_w]; rfl)
     refine pure_ (i := 12) (N := some 38) (v := ?_) (a' := ?_) bN13_ rfl rfl (any_of HT_.out (by kernel_rfl)) (fun _ _ _ h => h) (Or.inl ⟨by rfl, ?_⟩) ?_ ?_; rotate_left; (intro w'; go_simp; with_reducible rfl); rotate_left; (simp only [Act.put, List.setIfInBounds_toArray, List.set_cons_zero, List.set_cons_succ, i64_w, i32_w]; rfl)
     refine pure_ (i := 13) (N := some 39) (v := undef) (a' := ?_) bN14_ rfl rfl (any_of HT_.out (by kernel_rfl)) (fun _ _ _ h => h) (Or.inr ⟨by rfl, rfl⟩) ?_ ?_; rotate_left; (simp only [Act.put, List.setIfInBounds_toArray, List.set_cons_zero, List.set_cons_succ, i64_w, i32_w]; rfl)
     refine pure_ (i := 14) (N := some 40) (v := undef) (a' := ?_) bN15_ rfl rfl (any_of HT_.out (by kernel_rfl)) (fun _ _ _ h => h) (Or.inr ⟨by rfl, rfl⟩) ?_ ?_; rotate_left; (simp only [Act.put, List.setIfInBounds_toArray, List.set_cons_zero, List.set_cons_succ, i64_w, i32_w]; rfl)
     refine pure_ (i := 15) (N := some 41) (v := undef) (a' := ?_) bN16_ rfl rfl (any_of HT_.out (by kernel_rfl)) (fun _ _ _ h => h) (Or.inr ⟨by rfl, rfl⟩) ?_ ?_; rotate_left; (simp only [Act.put, List.setIfInBounds_toArray, List.set_cons_zero, List.set_cons_succ, i64_w, i32_w]; rfl)
     refine pure_ (i := 16) (N := some 42) (v := ?_) (a' := ?_) bN17_ rfl rfl (any_of HT_.out (by kernel_rfl)) (fun _ _ _ h => h) (Or.inl ⟨by rfl, ?_⟩) ?_ ?_; rotate_left; (intro w'; go_simp; with_reducible rfl); rotate_left; (simp only [Act.put, List.setIfInBounds_toArray, List.set_cons_zero, List.set_cons_succ, i64_w, i32_w]; rfl)
     refine done_ (done_of HT_.out (by kernel_rfl)) ?_
     have hcz93_0 : w92.cell? ⟨gb125, 0, none⟩ = some (.int .u64 a0_0) := (blk_cell BK125.out 0).trans rfl
     have hcz93_1 : w92.cell? ⟨gb125, 1, none⟩ = some (.int .u64 a0_1) := (blk_cell BK125.out 1).trans rfl
     have hcz93_2 : w92.cell? ⟨gb125, 2, none⟩ = some (.int .u64 a0_2) := (blk_cell BK125.out 2).trans rfl
     have hcz93_3 : w92.cell? ⟨gb125, 3, none⟩ = some (.int .u64 a0_3) := (blk_cell BK125.out 3).trans rfl
     have hcz93_4 : w92.cell? ⟨gb125, 4, none⟩ = some (.string a0_4) := (blk_cell BK125.out 4).trans rfl
     have hcz93_5 : w92.cell? ⟨gb125, 5, none⟩ = some (.slice Ao76 l0_5.length co76) := (blk_cell BK125.out 5).trans rfl
     have hfz93_0 := blk_frozen BK125.out 0
     have hfz93_1 := blk_frozen BK125.out 1
     have hfz93_2 := blk_frozen BK125.out 2
     have hfz93_3 := blk_frozen BK125.out 3
     have hfz93_4 := blk_frozen BK125.out 4
     have hfz93_5 := blk_frozen BK125.out 5
     have hcz94_0 : w92.cell? ⟨gb127, 0, none⟩ = some (.int .u64 0) := (blk_cell BK127.out 0).trans rfl
     have hcz94_1 : w92.cell? ⟨gb127, 1, none⟩ = some (.int .u64 0) := (blk_cell BK127.out 1).trans rfl
     have hcz94_2 : w92.cell? ⟨gb127, 2, none⟩ = some (.int .u64 0) := (blk_cell BK127.out 2).trans rfl
     have hcz94_3 : w92.cell? ⟨gb127, 3, none⟩ = some (.int .u64 0) := (blk_cell BK127.out 3).trans rfl
     have hcz94_4 : w92.cell? ⟨gb127, 4, none⟩ = some (.string (⟨#[]⟩ : ByteArray)) := (blk_cell BK127.out 4).trans rfl
     have hcz94_5 : w92.cell? ⟨gb127, 5, none⟩ = some (.slice none 0 0) := (blk_cell BK127.out 5).trans rfl
     have hfz94_0 := blk_frozen BK127.out 0
     have hfz94_1 := blk_frozen BK127.out 1
     have hfz94_2 := blk_frozen BK127.out 2
     have hfz94_3 := blk_frozen BK127.out 3
     have hfz94_4 := blk_frozen BK127.out 4
     have hfz94_5 := blk_frozen BK127.out 5
     try go_wp2
     refine bodyPost_ret (results_cell_row rfl _ _ gb127 30 #[.int .u64 a0_0, .int .u64 a0_1, .int .u64 a0_2, .int .u64 a0_3, .string a0_4, .slice Ao76 l0_5.length co76] (0, 0) _ rfl (by (with_reducible repeat (first | refine blk_drewN ?_ _ | refine blk_drew ?_ | refine blk_alloc ?_ _)); refine blk_put (cs := #[.int .u64 a0_0, .int .u64 a0_1, .int .u64 a0_2, .int .u64 a0_3, .string a0_4, .slice none 0 0]) ?_ 5 _ rfl; (with_reducible repeat (first | refine blk_drewN ?_ _ | refine blk_drew ?_ | refine blk_alloc ?_ _)); refine blk_put (cs := #[.int .u64 a0_0, .int .u64 a0_1, .int .u64 a0_2, .int .u64 a0_3, .string (⟨#[]⟩ : ByteArray), .slice none 0 0]) ?_ 4 _ rfl; (with_reducible repeat (first | refine blk_drewN ?_ _ | refine blk_drew ?_ | refine blk_alloc ?_ _)); refine blk_put (cs := #[.int .u64 a0_0, .int .u64 a0_1, .int .u64 a0_2, .int .u64 0, .string (⟨#[]⟩ : ByteArray), .slice none 0 0]) ?_ 3 _ rfl; (with_reducible repeat (first | refine blk_drewN ?_ _ | refine blk_drew ?_ | refine blk_alloc ?_ _)); refine blk_put (cs := #[.int .u64 a0_0, .int .u64 a0_1, .int .u64 0, .int .u64 0, .string (⟨#[]⟩ : ByteArray), .slice none 0 0]) ?_ 2 _ rfl; (with_reducible repeat (first | refine blk_drewN ?_ _ | refine blk_drew ?_ | refine blk_alloc ?_ _)); refine blk_put (cs := #[.int .u64 a0_0, .int .u64 0, .int .u64 0, .int .u64 0, .string (⟨#[]⟩ : ByteArray), .slice none 0 0]) ?_ 1 _ rfl; (with_reducible repeat (first | refine blk_drewN ?_ _ | refine blk_drew ?_ | refine blk_alloc ?_ _)); refine blk_put (cs := #[.int .u64 0, .int .u64 0, .int .u64 0, .int .u64 0, .string (⟨#[]⟩ : ByteArray), .slice none 0 0]) ?_ 0 _ rfl; (with_reducible repeat (first | refine blk_drewN ?_ _ | refine blk_drew ?_ | refine blk_alloc ?_ _)); exact BK127.out) Try.underlying30 rfl (by kernel_rfl)) rfl ?_
     exact ⟨_, by first | rfl | (simp [errW_none, errW_some] <;> rfl) | (simp [*, errW_none, errW_some] <;> rfl), by (with_reducible repeat (first | apply Kd.R_alloc | apply Kd.R_drewN | apply Kd.R_drew)); exact Kd.R_mono (Kd.R_far (p := ⟨gb127, 5, none⟩) (Kd.R_far (p := ⟨gb127, 4, none⟩) (Kd.R_far (p := ⟨gb127, 3, none⟩) (Kd.R_far (p := ⟨gb127, 2, none⟩) (Kd.R_far (p := ⟨gb127, 1, none⟩) (Kd.R_far (p := ⟨gb127, 0, none⟩) (Kd.R_types HO0_5.out BK127.out (by decide)) (fun _ hk => hk.2) (.int .u64 a0_0)) (fun _ hk => hk.2) (.int .u64 a0_1)) (fun _ hk => hk.2) (.int .u64 a0_2)) (fun _ hk => hk.2) (.int .u64 a0_3)) (fun _ hk => hk.2) (.string a0_4)) (fun _ hk => hk.2) (.slice Ao76 l0_5.length co76)) (fun _ hk => hk.1), hx_ HB, kx_ HK⟩
   ·rw [if_neg c22] at H
    have c22b0 : (a1_1 == (IntKind.u64.wrap (t129 + 1))) = false := beq_eq_false_iff_ne.mpr c22
    have c22b1 : (a1_1 != (IntKind.u64.wrap (t129 + 1))) = true := bne_iff_ne.mpr c22
    simp only [Option.some.injEq, Prod.mk.injEq] at H
    obtain ⟨rfl, rfl, rfl, rfl, rfl, rfl⟩ := H
    obtain ⟨Ao95, co95, eo95⟩ := Kd.R_slice HO0_5.out
    subst eo95
    go_enter Try.func44, Try.ntmps44
    try go_wp2_with (first | ((with_reducible refine gate_dst (N := 2) rfl ?_); (try (refine gate_guard (by rfl) ?_; dsimp only)); refine box_event ?hg (N := 2) ?hd (cs := #[.int .u64 a0_0, .int .u64 a0_1, .int .u64 a0_2, .int .u64 a0_3, .string a0_4, .slice Ao95 l0_5.length co95]) (t := 30) ?hr ?_; (case hd => rfl); (case hg => rfl); (case hr => first | (go_simp; done) | (go_simp; rfl)); intro gb125 hg w96 hbox hb; have n0_ := am_ (Kd.R_below (rx_ HO0_5) hb); have n1_ := am_ (Kept.below (S := (fun k_ => P0_5_ k_)) (kx_ HK) hb); have n2_ := am_ (below_step (hy_ HB) hb); have n3_ := am_ (hbox); have n4_ := am_ ((by rw [hg]; exact (by first | exact HK.out.1 | exact (show Kept w _ (fun k_ => P0_5_ k_) from kx_ HK).1) : w.heap.size ≤ gb125)); have n5_ := am_ ((by rw [hg]; exact (below_size (hx_ HB)) : w0.heap.size ≤ gb125)); clear HO0_5 HK HB; have HO0_5 := n0_; have HK := n1_; have HB := n2_; have BK125 := n3_; have GW125 := n4_; have GE125 := n5_; clear n0_ n1_ n2_ n3_ n4_ n5_; clear hb hbox hg) | ((with_reducible refine gate_dst (N := 3) rfl ?_); (try (refine gate_guard (by rfl) ?_; dsimp only)); refine box_event ?hg (N := 3) ?hd (cs := #[.int .i64 a1_0, .int .u64 a1_1, .int .u64 a1_2, .int .u64 a1_3, .string a1_4]) (t := 39) ?hr ?_; (case hd => rfl); (case hg => rfl); (case hr => first | (go_simp; done) | (go_simp; rfl)); intro gb126 hg w97 hbox hb; have n0_ := am_ (Kd.R_below (rx_ HO0_5) hb); have n1_ := am_ (bb_ BK125 hb); have n2_ := am_ (Kept.below (S := (fun k_ => P0_5_ k_)) (kx_ HK) hb); have n3_ := am_ (below_step (hy_ HB) hb); have n4_ := am_ (hbox); have n5_ := am_ ((by rw [hg]; exact (by first | exact HK.out.1 | exact (show Kept w _ (fun k_ => P0_5_ k_) from kx_ HK).1) : w.heap.size ≤ gb126)); have n6_ := am_ ((by rw [hg]; exact (below_size (hx_ HB)) : w0.heap.size ≤ gb126)); have n7_ := am_ ((by rw [hg]; exact Nat.ne_of_lt (bl_ BK125) : gb125 ≠ gb126)); have n8_ := am_ ((by rw [hg]; exact Nat.ne_of_gt (bl_ BK125) : gb126 ≠ gb125)); clear HO0_5 BK125 HK HB; have HO0_5 := n0_; have BK125 := n1_; have HK := n2_; have HB := n3_; have BK126 := n4_; have GW126 := n5_; have GE126 := n6_; have NB125_126 := n7_; have NB126_125 := n8_; clear n0_ n1_ n2_ n3_ n4_ n5_ n6_ n7_ n8_; clear hb hbox hg) | ((with_reducible refine gate_dst (N := 4) rfl ?_); (try (refine gate_guard (by rfl) ?_; dsimp only)); refine box_event ?hg (N := 4) ?hd (cs := #[.int .u64 0, .int .u64 0, .int .u64 0, .int .u64 0, .string (⟨#[]⟩ : ByteArray), .slice none 0 0]) (t := 30) ?hr ?_; (case hd => rfl); (case hg => rfl); (case hr => first | (go_simp; done) | (go_simp; rfl)); intro gb127 hg w98 hbox hb; have n0_ := am_ (Kd.R_below (rx_ HO0_5) hb); have n1_ := am_ (bb_ BK125 hb); have n2_ := am_ (bb_ BK126 hb); have n3_ := am_ (Kept.below (S := (fun k_ => P0_5_ k_)) (kx_ HK) hb); have n4_ := am_ (below_step (hy_ HB) hb); have n5_ := am_ (hbox); have n6_ := am_ ((by rw [hg]; exact (by first | exact HK.out.1 | exact (show Kept w _ (fun k_ => P0_5_ k_) from kx_ HK).1) : w.heap.size ≤ gb127)); have n7_ := am_ ((by rw [hg]; exact (below_size (hx_ HB)) : w0.heap.size ≤ gb127)); have n8_ := am_ ((by rw [hg]; exact Nat.ne_of_lt (bl_ BK125) : gb125 ≠ gb127)); have n9_ := am_ ((by rw [hg]; exact Nat.ne_of_gt (bl_ BK125) : gb127 ≠ gb125)); have n10_ := am_ ((by rw [hg]; exact Nat.ne_of_lt (bl_ BK126) : gb126 ≠ gb127)); have n11_ := am_ ((by rw [hg]; exact Nat.ne_of_gt (bl_ BK126) : gb127 ≠ gb126)); clear HO0_5 BK125 BK126 HK HB; have HO0_5 := n0_; have BK125 := n1_; have BK126 := n2_; have HK := n3_; have HB := n4_; have BK127 := n5_; have GW127 := n6_; have GE127 := n7_; have NB125_127 := n8_; have NB127_125 := n9_; have NB126_127 := n10_; have NB127_126 := n11_; clear n0_ n1_ n2_ n3_ n4_ n5_ n6_ n7_ n8_ n9_ n10_ n11_; clear hb hbox hg; have hnb99 := NB125_126.out; have hnc99 := NB126_125.out; have hnb100 := NB125_127.out; have hnc100 := NB127_125.out; have hcz101_0 : w98.cell? ⟨gb125, 0, none⟩ = some (.int .u64 a0_0) := (blk_cell BK125.out 0).trans rfl; have hcz101_1 : w98.cell? ⟨gb125, 1, none⟩ = some (.int .u64 a0_1) := (blk_cell BK125.out 1).trans rfl; have hcz101_2 : w98.cell? ⟨gb125, 2, none⟩ = some (.int .u64 a0_2) := (blk_cell BK125.out 2).trans rfl; have hcz101_3 : w98.cell? ⟨gb125, 3, none⟩ = some (.int .u64 a0_3) := (blk_cell BK125.out 3).trans rfl; have hcz101_4 : w98.cell? ⟨gb125, 4, none⟩ = some (.string a0_4) := (blk_cell BK125.out 4).trans rfl; have hcz101_5 : w98.cell? ⟨gb125, 5, none⟩ = some (.slice Ao95 l0_5.length co95) := (blk_cell BK125.out 5).trans rfl; have hfz101_0 := blk_frozen BK125.out 0; have hfz101_1 := blk_frozen BK125.out 1; have hfz101_2 := blk_frozen BK125.out 2; have hfz101_3 := blk_frozen BK125.out 3; have hfz101_4 := blk_frozen BK125.out 4; have hfz101_5 := blk_frozen BK125.out 5) | ((with_reducible refine gate_dst (N := 5) rfl ?_); (try (refine gate_guard (by rfl) ?_; dsimp only)); refine box_event ?hg (N := 5) ?hd (cs := #[.int .u64 0, .int .u64 0, .string (⟨#[]⟩ : ByteArray), .slice none 0 0]) (t := 28) ?hr ?_; (case hd => rfl); (case hg => rfl); (case hr => first | (go_simp; done) | (go_simp; rfl)); intro gb128 hg w102 hbox hb; have n0_ := am_ (Kd.R_below (rx_ HO0_5) hb); have n1_ := am_ (bb_ BK125 hb); have n2_ := am_ (bb_ BK126 hb); have n3_ := am_ (bb_ BK127 hb); have n4_ := am_ (Kept.below (S := (fun k_ => P0_5_ k_)) (kx_ HK) hb); have n5_ := am_ (below_step (hy_ HB) hb); have n6_ := am_ (hbox); have n7_ := am_ ((by rw [hg]; exact (by first | exact HK.out.1 | exact (show Kept w _ (fun k_ => P0_5_ k_) from kx_ HK).1) : w.heap.size ≤ gb128)); have n8_ := am_ ((by rw [hg]; exact (below_size (hx_ HB)) : w0.heap.size ≤ gb128)); have n9_ := am_ ((by rw [hg]; exact Nat.ne_of_lt (bl_ BK125) : gb125 ≠ gb128)); have n10_ := am_ ((by rw [hg]; exact Nat.ne_of_gt (bl_ BK125) : gb128 ≠ gb125)); have n11_ := am_ ((by rw [hg]; exact Nat.ne_of_lt (bl_ BK126) : gb126 ≠ gb128)); have n12_ := am_ ((by rw [hg]; exact Nat.ne_of_gt (bl_ BK126) : gb128 ≠ gb126)); have n13_ := am_ ((by rw [hg]; exact Nat.ne_of_lt (bl_ BK127) : gb127 ≠ gb128)); have n14_ := am_ ((by rw [hg]; exact Nat.ne_of_gt (bl_ BK127) : gb128 ≠ gb127)); clear HO0_5 BK125 BK126 BK127 HK HB; have HO0_5 := n0_; have BK125 := n1_; have BK126 := n2_; have BK127 := n3_; have HK := n4_; have HB := n5_; have BK128 := n6_; have GW128 := n7_; have GE128 := n8_; have NB125_128 := n9_; have NB128_125 := n10_; have NB126_128 := n11_; have NB128_126 := n12_; have NB127_128 := n13_; have NB128_127 := n14_; clear n0_ n1_ n2_ n3_ n4_ n5_ n6_ n7_ n8_ n9_ n10_ n11_ n12_ n13_ n14_; clear hb hbox hg; have hnb103 := NB128_125.out; have hnc103 := NB125_128.out; have hnb104 := NB128_126.out; have hnc104 := NB126_128.out; have hnb105 := NB128_127.out; have hnc105 := NB127_128.out; have hcz106_0 : w102.cell? ⟨gb128, 0, none⟩ = some (.int .u64 0) := (blk_cell BK128.out 0).trans rfl; have hcz106_1 : w102.cell? ⟨gb128, 1, none⟩ = some (.int .u64 0) := (blk_cell BK128.out 1).trans rfl; have hcz106_2 : w102.cell? ⟨gb128, 2, none⟩ = some (.string (⟨#[]⟩ : ByteArray)) := (blk_cell BK128.out 2).trans rfl; have hcz106_3 : w102.cell? ⟨gb128, 3, none⟩ = some (.slice none 0 0) := (blk_cell BK128.out 3).trans rfl; have hfz106_0 := blk_frozen BK128.out 0; have hfz106_1 := blk_frozen BK128.out 1; have hfz106_2 := blk_frozen BK128.out 2; have hfz106_3 := blk_frozen BK128.out 3; have hnb107 := NB126_127.out; have hnc107 := NB127_126.out; have hcz108_0 : w102.cell? ⟨gb126, 0, none⟩ = some (.int .i64 a1_0) := (blk_cell BK126.out 0).trans rfl; have hcz108_1 : w102.cell? ⟨gb126, 1, none⟩ = some (.int .u64 a1_1) := (blk_cell BK126.out 1).trans rfl; have hcz108_2 : w102.cell? ⟨gb126, 2, none⟩ = some (.int .u64 a1_2) := (blk_cell BK126.out 2).trans rfl; have hcz108_3 : w102.cell? ⟨gb126, 3, none⟩ = some (.int .u64 a1_3) := (blk_cell BK126.out 3).trans rfl; have hcz108_4 : w102.cell? ⟨gb126, 4, none⟩ = some (.string a1_4) := (blk_cell BK126.out 4).trans rfl; have hfz108_0 := blk_frozen BK126.out 0; have hfz108_1 := blk_frozen BK126.out 1; have hfz108_2 := blk_frozen BK126.out 2; have hfz108_3 := blk_frozen BK126.out 3; have hfz108_4 := blk_frozen BK126.out 4))
    have n0_ : Aside0 (Kd.R k75 75 ((((w102.setCell ⟨gb128, 0, none⟩ (.int .u64 a0_2)).setCell ⟨gb128, 1, none⟩ (.int .u64 a0_3)).setCell ⟨gb128, 2, none⟩ (.string a0_4)).setCell ⟨gb128, 3, none⟩ (.slice Ao95 l0_5.length co95)) w0.heap.size (fun k_ => (P0_5_ k_ ∨ w.heap.size ≤ k_)) (.slice Ao95 l0_5.length co95) l0_5) := ⟨by (with_reducible repeat (first | apply Kd.R_alloc | apply Kd.R_drewN | apply Kd.R_drew)); exact Kd.R_mono (Kd.R_far (p := ⟨gb128, 3, none⟩) (Kd.R_far (p := ⟨gb128, 2, none⟩) (Kd.R_far (p := ⟨gb128, 1, none⟩) (Kd.R_far (p := ⟨gb128, 0, none⟩) (Kd.R_types HO0_5.out BK128.out (by decide)) (fun _ hk => hk.2) (.int .u64 a0_2)) (fun _ hk => hk.2) (.int .u64 a0_3)) (fun _ hk => hk.2) (.string a0_4)) (fun _ hk => hk.2) (.slice Ao95 l0_5.length co95)) (fun _ hk => hk.1)⟩
    have n1_ : Aside0 (((((w102.setCell ⟨gb128, 0, none⟩ (.int .u64 a0_2)).setCell ⟨gb128, 1, none⟩ (.int .u64 a0_3)).setCell ⟨gb128, 2, none⟩ (.string a0_4)).setCell ⟨gb128, 3, none⟩ (.slice Ao95 l0_5.length co95)).heap[gb125]? = some (.cells #[.int .u64 a0_0, .int .u64 a0_1, .int .u64 a0_2, .int .u64 a0_3, .string a0_4, .slice Ao95 l0_5.length co95] 30 (0, 0))) := ⟨by (with_reducible repeat (first | refine blk_drewN ?_ _ | refine blk_drew ?_ | refine blk_alloc ?_ _)); refine blk_far ?_ NB125_128.out _; (with_reducible repeat (first | refine blk_drewN ?_ _ | refine blk_drew ?_ | refine blk_alloc ?_ _)); refine blk_far ?_ NB125_128.out _; (with_reducible repeat (first | refine blk_drewN ?_ _ | refine blk_drew ?_ | refine blk_alloc ?_ _)); refine blk_far ?_ NB125_128.out _; (with_reducible repeat (first | refine blk_drewN ?_ _ | refine blk_drew ?_ | refine blk_alloc ?_ _)); refine blk_far ?_ NB125_128.out _; (with_reducible repeat (first | refine blk_drewN ?_ _ | refine blk_drew ?_ | refine blk_alloc ?_ _)); exact BK125.out⟩
    have n2_ : Aside0 (((((w102.setCell ⟨gb128, 0, none⟩ (.int .u64 a0_2)).setCell ⟨gb128, 1, none⟩ (.int .u64 a0_3)).setCell ⟨gb128, 2, none⟩ (.string a0_4)).setCell ⟨gb128, 3, none⟩ (.slice Ao95 l0_5.length co95)).heap[gb126]? = some (.cells #[.int .i64 a1_0, .int .u64 a1_1, .int .u64 a1_2, .int .u64 a1_3, .string a1_4] 39 (0, 0))) := ⟨by (with_reducible repeat (first | refine blk_drewN ?_ _ | refine blk_drew ?_ | refine blk_alloc ?_ _)); refine blk_far ?_ NB126_128.out _; (with_reducible repeat (first | refine blk_drewN ?_ _ | refine blk_drew ?_ | refine blk_alloc ?_ _)); refine blk_far ?_ NB126_128.out _; (with_reducible repeat (first | refine blk_drewN ?_ _ | refine blk_drew ?_ | refine blk_alloc ?_ _)); refine blk_far ?_ NB126_128.out _; (with_reducible repeat (first | refine blk_drewN ?_ _ | refine blk_drew ?_ | refine blk_alloc ?_ _)); refine blk_far ?_ NB126_128.out _; (with_reducible repeat (first | refine blk_drewN ?_ _ | refine blk_drew ?_ | refine blk_alloc ?_ _)); exact BK126.out⟩
    have n3_ : Aside0 (((((w102.setCell ⟨gb128, 0, none⟩ (.int .u64 a0_2)).setCell ⟨gb128, 1, none⟩ (.int .u64 a0_3)).setCell ⟨gb128, 2, none⟩ (.string a0_4)).setCell ⟨gb128, 3, none⟩ (.slice Ao95 l0_5.length co95)).heap[gb127]? = some (.cells #[.int .u64 0, .int .u64 0, .int .u64 0, .int .u64 0, .string (⟨#[]⟩ : ByteArray), .slice none 0 0] 30 (0, 0))) := ⟨by (with_reducible repeat (first | refine blk_drewN ?_ _ | refine blk_drew ?_ | refine blk_alloc ?_ _)); refine blk_far ?_ NB127_128.out _; (with_reducible repeat (first | refine blk_drewN ?_ _ | refine blk_drew ?_ | refine blk_alloc ?_ _)); refine blk_far ?_ NB127_128.out _; (with_reducible repeat (first | refine blk_drewN ?_ _ | refine blk_drew ?_ | refine blk_alloc ?_ _)); refine blk_far ?_ NB127_128.out _; (with_reducible repeat (first | refine blk_drewN ?_ _ | refine blk_drew ?_ | refine blk_alloc ?_ _)); refine blk_far ?_ NB127_128.out _; (with_reducible repeat (first | refine blk_drewN ?_ _ | refine blk_drew ?_ | refine blk_alloc ?_ _)); exact BK127.out⟩
    have n4_ : Aside0 (((((w102.setCell ⟨gb128, 0, none⟩ (.int .u64 a0_2)).setCell ⟨gb128, 1, none⟩ (.int .u64 a0_3)).setCell ⟨gb128, 2, none⟩ (.string a0_4)).setCell ⟨gb128, 3, none⟩ (.slice Ao95 l0_5.length co95)).heap[gb128]? = some (.cells #[.int .u64 a0_2, .int .u64 a0_3, .string a0_4, .slice Ao95 l0_5.length co95] 28 (0, 0))) := ⟨by (with_reducible repeat (first | refine blk_drewN ?_ _ | refine blk_drew ?_ | refine blk_alloc ?_ _)); refine blk_put (cs := #[.int .u64 a0_2, .int .u64 a0_3, .string a0_4, .slice none 0 0]) ?_ 3 _ rfl; (with_reducible repeat (first | refine blk_drewN ?_ _ | refine blk_drew ?_ | refine blk_alloc ?_ _)); refine blk_put (cs := #[.int .u64 a0_2, .int .u64 a0_3, .string (⟨#[]⟩ : ByteArray), .slice none 0 0]) ?_ 2 _ rfl; (with_reducible repeat (first | refine blk_drewN ?_ _ | refine blk_drew ?_ | refine blk_alloc ?_ _)); refine blk_put (cs := #[.int .u64 a0_2, .int .u64 0, .string (⟨#[]⟩ : ByteArray), .slice none 0 0]) ?_ 1 _ rfl; (with_reducible repeat (first | refine blk_drewN ?_ _ | refine blk_drew ?_ | refine blk_alloc ?_ _)); refine blk_put (cs := #[.int .u64 0, .int .u64 0, .string (⟨#[]⟩ : ByteArray), .slice none 0 0]) ?_ 0 _ rfl; (with_reducible repeat (first | refine blk_drewN ?_ _ | refine blk_drew ?_ | refine blk_alloc ?_ _)); exact BK128.out⟩
    have n5_ : Aside0 (Kept w ((((w102.setCell ⟨gb128, 0, none⟩ (.int .u64 a0_2)).setCell ⟨gb128, 1, none⟩ (.int .u64 a0_3)).setCell ⟨gb128, 2, none⟩ (.string a0_4)).setCell ⟨gb128, 3, none⟩ (.slice Ao95 l0_5.length co95)) (fun k_ => P0_5_ k_)) := ⟨kx_ HK⟩
    have n6_ : Aside0 (Below w0.heap.size w0 ((((w102.setCell ⟨gb128, 0, none⟩ (.int .u64 a0_2)).setCell ⟨gb128, 1, none⟩ (.int .u64 a0_3)).setCell ⟨gb128, 2, none⟩ (.string a0_4)).setCell ⟨gb128, 3, none⟩ (.slice Ao95 l0_5.length co95))) := ⟨hx_ HB⟩
    (try clear HO0_5)
    (try clear BK125)
    (try clear BK126)
    (try clear BK127)
    (try clear BK128)
    (try clear HK)
    (try clear HB)
    generalize ((((w102.setCell ⟨gb128, 0, none⟩ (.int .u64 a0_2)).setCell ⟨gb128, 1, none⟩ (.int .u64 a0_3)).setCell ⟨gb128, 2, none⟩ (.string a0_4)).setCell ⟨gb128, 3, none⟩ (.slice Ao95 l0_5.length co95)) = w109 at n0_ n1_ n2_ n3_ n4_ n5_ n6_ ⊢
    have HO0_5 := n0_
    have BK125 := n1_
    have BK126 := n2_
    have BK127 := n3_
    have BK128 := n4_
    have HK := n5_
    have HB := n6_
    clear n0_ n1_ n2_ n3_ n4_ n5_ n6_
    have n0_ := am_ (Kd.R_drew HO0_5.out)
    have n1_ := am_ (blk_drew BK125.out)
    have n2_ := am_ (blk_drew BK126.out)
    have n3_ := am_ (blk_drew BK127.out)
    have n4_ := am_ (blk_drew BK128.out)
    have n5_ := am_ (Kept.drew HK.out)
    have n6_ := am_ (below_drew1 HB.out)
    clear HO0_5
    clear BK125
    clear BK126
    clear BK127
    clear BK128
    clear HK
    clear HB
    have HO0_5 := n0_
    have BK125 := n1_
    have BK126 := n2_
    have BK127 := n3_
    have BK128 := n4_
    have HK := n5_
    have HB := n6_
    clear n0_ n1_ n2_ n3_ n4_ n5_ n6_
    refine start_ (n := 17) (S := fun w' => w'.cell? ⟨gb126, 0, none⟩ = some (.int .i64 a1_0) ∧ w'.cell? ⟨gb126, 1, none⟩ = some (.int .u64 a1_1) ∧ w'.cell? ⟨gb126, 2, none⟩ = some (.int .u64 a1_2) ∧ w'.cell? ⟨gb126, 3, none⟩ = some (.int .u64 a1_3) ∧ w'.cell? ⟨gb126, 4, none⟩ = some (.string a1_4) ∧ w'.cell? ⟨gb128, 0, none⟩ = some (.int .u64 a0_2) ∧ w'.cell? ⟨gb128, 1, none⟩ = some (.int .u64 a0_3) ∧ w'.cell? ⟨gb128, 2, none⟩ = some (.string a0_4) ∧ w'.cell? ⟨gb128, 3, none⟩ = some (.slice Ao95 l0_5.length co95)) (ds := []) bN0_ (by kernel_rfl) rfl rfl ⟨(blk_cell BK126.out 0).trans rfl, (blk_cell BK126.out 1).trans rfl, (blk_cell BK126.out 2).trans rfl, (blk_cell BK126.out 3).trans rfl, (blk_cell BK126.out 4).trans rfl, (blk_cell BK128.out 0).trans rfl, (blk_cell BK128.out 1).trans rfl, (blk_cell BK128.out 2).trans rfl, (blk_cell BK128.out 3).trans rfl⟩ (fun hHeld => ?_); refine with_tabW ferruleref04_Step.tab7 ferruleref04_Step.bits7 (fun HT_ HW_ => ?_)
    generalize w109.drew = w110 at HO0_5 BK125 BK126 BK127 BK128 HK HB hHeld ⊢
    refine pure_ (i := 0) (N := some 26) (v := ?_) (a' := ?_) bN1_ rfl rfl (any_of HT_.out (by kernel_rfl)) (fun _ _ _ h => h) (Or.inl ⟨by rfl, ?_⟩) ?_ ?_; rotate_left; (intro w'; go_simp; with_reducible rfl); rotate_left; (simp only [Act.put, List.setIfInBounds_toArray, List.set_cons_zero, List.set_cons_succ, i64_w, i32_w]; rfl)
    refine take_ (i := 1) (N := some 27) (v := ?_) (a' := ?_) bN2_ rfl rfl (take_ofW HT_.out HW_.out (by kernel_rfl)) (fun _ _ _ h => h) (Or.inl ⟨by rfl, ?_⟩) hHeld ?_ ?_; rotate_left; (rintro w' ⟨s0, s1, s2, s3, s4, s5, s6, s7, s8⟩; go_simp; with_reducible rfl); rotate_left; (simp only [Act.put, List.setIfInBounds_toArray, List.set_cons_zero, List.set_cons_succ, i64_w, i32_w]; rfl)
    refine take_ (i := 2) (N := some 28) (v := ?_) (a' := ?_) bN3_ rfl rfl (take_ofW HT_.out HW_.out (by kernel_rfl)) (fun _ _ _ h => h) (Or.inl ⟨by rfl, ?_⟩) hHeld ?_ ?_; rotate_left; (rintro w' ⟨s0, s1, s2, s3, s4, s5, s6, s7, s8⟩; go_simp; with_reducible rfl); rotate_left; (simp only [Act.put, List.setIfInBounds_toArray, List.set_cons_zero, List.set_cons_succ, i64_w, i32_w]; rfl)
    refine one_ (i := 3) (N := some 29) bN4_ rfl rfl (one_of HT_.out (by kernel_rfl)) (by decide) (fun K hK => ?_)
    refine goes_ Try.func54 (by kernel_rfl) rfl #[.agg #[.int .u64 a0_2, .int .u64 a0_3, .string a0_4, .slice Ao95 l0_5.length co95]] (by rfl) rfl rfl (by (try simp only [List.map_toArray, List.map_cons, List.map_nil]); first | done | rfl | (simp only [List.length_drop, List.length_take]; rfl)) ?_
    with_reducible refine (ferruleref04_Last.calls a0_2 a0_3 a0_4 _ _ l0_5 t129 _ ?side1 ?side2 A21.out).mono ?_
    (case side1 => repeat (first | exact (Kd.R_reads' HO0_5.out).2.2 | (with_reducible refine Kd.C_alloc ?_ _) | (with_reducible refine Kd.C_drewN ?_ _) | (with_reducible refine Kd.C_drew ?_)))
    (case side2 => exact (Kd.R_reads' HO0_5.out).2.1)
    rintro e w111 ⟨rfl, hb⟩
    refine ⟨_, rfl, ?_⟩
    have n0_ := am_ (Kd.R_below (rx_ HO0_5) hb)
    have n1_ := am_ (bb_ BK125 hb)
    have n2_ := am_ (bb_ BK126 hb)
    have n3_ := am_ (bb_ BK127 hb)
    have n4_ := am_ (bb_ BK128 hb)
    have n5_ := am_ (Kept.below (S := (fun k_ => P0_5_ k_)) (kx_ HK) hb)
    have n6_ := am_ (below_step (hy_ HB) hb)
    clear HO0_5
    clear BK125
    clear BK126
    clear BK127
    clear BK128
    clear HK
    clear HB
    have HO0_5 := n0_
    have BK125 := n1_
    have BK126 := n2_
    have BK127 := n3_
    have BK128 := n4_
    have HK := n5_
    have HB := n6_
    clear n0_ n1_ n2_ n3_ n4_ n5_ n6_
    (try clear hb)
    (try clear hb2)
    (try clear hk)
    (try clear hi)
    refine hK.out _ _ ⟨(blk_cell BK126.out 0).trans rfl, (blk_cell BK126.out 1).trans rfl, (blk_cell BK126.out 2).trans rfl, (blk_cell BK126.out 3).trans rfl, (blk_cell BK126.out 4).trans rfl, (blk_cell BK128.out 0).trans rfl, (blk_cell BK128.out 1).trans rfl, (blk_cell BK128.out 2).trans rfl, (blk_cell BK128.out 3).trans rfl⟩ (fun hHeld => ?_)
    clear hK K
    refine norm_ (a' := ?_) ?_ ?_
    rotate_left
    ·show Act.put _ (some 29) _ = _
     simp only [Act.put, List.setIfInBounds_toArray, List.set_cons_zero, List.set_cons_succ, i64_w, i32_w]
     rfl
    refine pure_ (i := 4) (N := some 30) (v := ?_) (a' := ?_) bN5_ rfl rfl (any_of HT_.out (by kernel_rfl)) (fun _ _ _ h => h) (Or.inl ⟨by rfl, ?_⟩) ?_ ?_; rotate_left; (intro w'; go_simp; with_reducible rfl); rotate_left; (simp only [Act.put, List.setIfInBounds_toArray, List.set_cons_zero, List.set_cons_succ, i64_w, i32_w]; rfl)
    refine pure_ (i := 5) (N := some 31) (v := ?_) (a' := ?_) bN6_ rfl rfl (any_of HT_.out (by kernel_rfl)) (fun _ _ _ h => h) (Or.inl ⟨by rfl, ?_⟩) ?_ ?_; rotate_left; (intro w'; go_simp; with_reducible rfl); rotate_left; (simp only [Act.put, List.setIfInBounds_toArray, List.set_cons_zero, List.set_cons_succ, i64_w, i32_w]; rfl)
    refine pure_ (i := 6) (N := some 32) (v := ?_) (a' := ?_) bN7_ rfl rfl (any_of HT_.out (by kernel_rfl)) (fun _ _ _ h => h) (Or.inl ⟨by rfl, ?_⟩) ?_ ?_; rotate_left; (intro w'; go_simp; with_reducible rfl); rotate_left; (simp only [Act.put, List.setIfInBounds_toArray, List.set_cons_zero, List.set_cons_succ, i64_w, i32_w]; rfl)
    refine pure_ (i := 7) (N := some 33) (v := undef) (a' := ?_) bN8_ rfl rfl (any_of HT_.out (by kernel_rfl)) (fun _ _ _ h => h) (Or.inr ⟨by rfl, rfl⟩) ?_ ?_; rotate_left; (simp only [Act.put, List.setIfInBounds_toArray, List.set_cons_zero, List.set_cons_succ, i64_w, i32_w]; rfl)
    refine pure_ (i := 8) (N := some 34) (v := undef) (a' := ?_) bN9_ rfl rfl (any_of HT_.out (by kernel_rfl)) (fun _ _ _ h => h) (Or.inr ⟨by rfl, rfl⟩) ?_ ?_; rotate_left; (simp only [Act.put, List.setIfInBounds_toArray, List.set_cons_zero, List.set_cons_succ, i64_w, i32_w]; rfl)
    refine pure_ (i := 9) (N := some 35) (v := undef) (a' := ?_) bN10_ rfl rfl (any_of HT_.out (by kernel_rfl)) (fun _ _ _ h => h) (Or.inr ⟨by rfl, rfl⟩) ?_ ?_; rotate_left; (simp only [Act.put, List.setIfInBounds_toArray, List.set_cons_zero, List.set_cons_succ, i64_w, i32_w]; rfl)
    refine pure_ (i := 10) (N := some 36) (v := undef) (a' := ?_) bN11_ rfl rfl (any_of HT_.out (by kernel_rfl)) (fun _ _ _ h => h) (Or.inr ⟨by rfl, rfl⟩) ?_ ?_; rotate_left; (simp only [Act.put, List.setIfInBounds_toArray, List.set_cons_zero, List.set_cons_succ, i64_w, i32_w]; rfl)
    refine pure_ (i := 11) (N := some 37) (v := ?_) (a' := ?_) bN12_ rfl rfl (any_of HT_.out (by kernel_rfl)) (fun _ _ _ h => h) (Or.inl ⟨by rfl, ?_⟩) ?_ ?_; rotate_left; (intro w'; go_simp; with_reducible rfl); rotate_left; (simp only [Act.put, List.setIfInBounds_toArray, List.set_cons_zero, List.set_cons_succ, i64_w, i32_w]; rfl)
    refine pure_ (i := 12) (N := some 38) (v := ?_) (a' := ?_) bN13_ rfl rfl (any_of HT_.out (by kernel_rfl)) (fun _ _ _ h => h) (Or.inl ⟨by rfl, ?_⟩) ?_ ?_; rotate_left; (intro w'; go_simp; with_reducible rfl); rotate_left; (simp only [Act.put, List.setIfInBounds_toArray, List.set_cons_zero, List.set_cons_succ, i64_w, i32_w]; rfl)
    refine pure_ (i := 13) (N := some 39) (v := undef) (a' := ?_) bN14_ rfl rfl (any_of HT_.out (by kernel_rfl)) (fun _ _ _ h => h) (Or.inr ⟨by rfl, rfl⟩) ?_ ?_; rotate_left; (simp only [Act.put, List.setIfInBounds_toArray, List.set_cons_zero, List.set_cons_succ, i64_w, i32_w]; rfl)
    refine pure_ (i := 14) (N := some 40) (v := undef) (a' := ?_) bN15_ rfl rfl (any_of HT_.out (by kernel_rfl)) (fun _ _ _ h => h) (Or.inr ⟨by rfl, rfl⟩) ?_ ?_; rotate_left; (simp only [Act.put, List.setIfInBounds_toArray, List.set_cons_zero, List.set_cons_succ, i64_w, i32_w]; rfl)
    refine pure_ (i := 15) (N := some 41) (v := undef) (a' := ?_) bN16_ rfl rfl (any_of HT_.out (by kernel_rfl)) (fun _ _ _ h => h) (Or.inr ⟨by rfl, rfl⟩) ?_ ?_; rotate_left; (simp only [Act.put, List.setIfInBounds_toArray, List.set_cons_zero, List.set_cons_succ, i64_w, i32_w]; rfl)
    refine pure_ (i := 16) (N := some 42) (v := ?_) (a' := ?_) bN17_ rfl rfl (any_of HT_.out (by kernel_rfl)) (fun _ _ _ h => h) (Or.inl ⟨by rfl, ?_⟩) ?_ ?_; rotate_left; (intro w'; go_simp; with_reducible rfl); rotate_left; (simp only [Act.put, List.setIfInBounds_toArray, List.set_cons_zero, List.set_cons_succ, i64_w, i32_w]; rfl)
    refine done_ (done_of HT_.out (by kernel_rfl)) ?_
    have hcz112_0 : w111.cell? ⟨gb125, 0, none⟩ = some (.int .u64 a0_0) := (blk_cell BK125.out 0).trans rfl
    have hcz112_1 : w111.cell? ⟨gb125, 1, none⟩ = some (.int .u64 a0_1) := (blk_cell BK125.out 1).trans rfl
    have hcz112_2 : w111.cell? ⟨gb125, 2, none⟩ = some (.int .u64 a0_2) := (blk_cell BK125.out 2).trans rfl
    have hcz112_3 : w111.cell? ⟨gb125, 3, none⟩ = some (.int .u64 a0_3) := (blk_cell BK125.out 3).trans rfl
    have hcz112_4 : w111.cell? ⟨gb125, 4, none⟩ = some (.string a0_4) := (blk_cell BK125.out 4).trans rfl
    have hcz112_5 : w111.cell? ⟨gb125, 5, none⟩ = some (.slice Ao95 l0_5.length co95) := (blk_cell BK125.out 5).trans rfl
    have hfz112_0 := blk_frozen BK125.out 0
    have hfz112_1 := blk_frozen BK125.out 1
    have hfz112_2 := blk_frozen BK125.out 2
    have hfz112_3 := blk_frozen BK125.out 3
    have hfz112_4 := blk_frozen BK125.out 4
    have hfz112_5 := blk_frozen BK125.out 5
    have hcz113_0 : w111.cell? ⟨gb127, 0, none⟩ = some (.int .u64 0) := (blk_cell BK127.out 0).trans rfl
    have hcz113_1 : w111.cell? ⟨gb127, 1, none⟩ = some (.int .u64 0) := (blk_cell BK127.out 1).trans rfl
    have hcz113_2 : w111.cell? ⟨gb127, 2, none⟩ = some (.int .u64 0) := (blk_cell BK127.out 2).trans rfl
    have hcz113_3 : w111.cell? ⟨gb127, 3, none⟩ = some (.int .u64 0) := (blk_cell BK127.out 3).trans rfl
    have hcz113_4 : w111.cell? ⟨gb127, 4, none⟩ = some (.string (⟨#[]⟩ : ByteArray)) := (blk_cell BK127.out 4).trans rfl
    have hcz113_5 : w111.cell? ⟨gb127, 5, none⟩ = some (.slice none 0 0) := (blk_cell BK127.out 5).trans rfl
    have hfz113_0 := blk_frozen BK127.out 0
    have hfz113_1 := blk_frozen BK127.out 1
    have hfz113_2 := blk_frozen BK127.out 2
    have hfz113_3 := blk_frozen BK127.out 3
    have hfz113_4 := blk_frozen BK127.out 4
    have hfz113_5 := blk_frozen BK127.out 5
    try go_wp2
    refine bodyPost_ret (results_cell_row rfl _ _ gb127 30 #[.int .u64 a0_0, .int .u64 a0_1, .int .u64 a0_2, .int .u64 a0_3, .string a0_4, .slice Ao95 l0_5.length co95] (0, 0) _ rfl (by (with_reducible repeat (first | refine blk_drewN ?_ _ | refine blk_drew ?_ | refine blk_alloc ?_ _)); refine blk_put (cs := #[.int .u64 a0_0, .int .u64 a0_1, .int .u64 a0_2, .int .u64 a0_3, .string a0_4, .slice none 0 0]) ?_ 5 _ rfl; (with_reducible repeat (first | refine blk_drewN ?_ _ | refine blk_drew ?_ | refine blk_alloc ?_ _)); refine blk_put (cs := #[.int .u64 a0_0, .int .u64 a0_1, .int .u64 a0_2, .int .u64 a0_3, .string (⟨#[]⟩ : ByteArray), .slice none 0 0]) ?_ 4 _ rfl; (with_reducible repeat (first | refine blk_drewN ?_ _ | refine blk_drew ?_ | refine blk_alloc ?_ _)); refine blk_put (cs := #[.int .u64 a0_0, .int .u64 a0_1, .int .u64 a0_2, .int .u64 0, .string (⟨#[]⟩ : ByteArray), .slice none 0 0]) ?_ 3 _ rfl; (with_reducible repeat (first | refine blk_drewN ?_ _ | refine blk_drew ?_ | refine blk_alloc ?_ _)); refine blk_put (cs := #[.int .u64 a0_0, .int .u64 a0_1, .int .u64 0, .int .u64 0, .string (⟨#[]⟩ : ByteArray), .slice none 0 0]) ?_ 2 _ rfl; (with_reducible repeat (first | refine blk_drewN ?_ _ | refine blk_drew ?_ | refine blk_alloc ?_ _)); refine blk_put (cs := #[.int .u64 a0_0, .int .u64 0, .int .u64 0, .int .u64 0, .string (⟨#[]⟩ : ByteArray), .slice none 0 0]) ?_ 1 _ rfl; (with_reducible repeat (first | refine blk_drewN ?_ _ | refine blk_drew ?_ | refine blk_alloc ?_ _)); refine blk_put (cs := #[.int .u64 0, .int .u64 0, .int .u64 0, .int .u64 0, .string (⟨#[]⟩ : ByteArray), .slice none 0 0]) ?_ 0 _ rfl; (with_reducible repeat (first | refine blk_drewN ?_ _ | refine blk_drew ?_ | refine blk_alloc ?_ _)); exact BK127.out) Try.underlying30 rfl (by kernel_rfl)) rfl ?_
    exact ⟨_, by first | rfl | (simp [errW_none, errW_some] <;> rfl) | (simp [*, errW_none, errW_some] <;> rfl), by (with_reducible repeat (first | apply Kd.R_alloc | apply Kd.R_drewN | apply Kd.R_drew)); exact Kd.R_mono (Kd.R_far (p := ⟨gb127, 5, none⟩) (Kd.R_far (p := ⟨gb127, 4, none⟩) (Kd.R_far (p := ⟨gb127, 3, none⟩) (Kd.R_far (p := ⟨gb127, 2, none⟩) (Kd.R_far (p := ⟨gb127, 1, none⟩) (Kd.R_far (p := ⟨gb127, 0, none⟩) (Kd.R_types HO0_5.out BK127.out (by decide)) (fun _ hk => hk.2) (.int .u64 a0_0)) (fun _ hk => hk.2) (.int .u64 a0_1)) (fun _ hk => hk.2) (.int .u64 a0_2)) (fun _ hk => hk.2) (.int .u64 a0_3)) (fun _ hk => hk.2) (.string a0_4)) (fun _ hk => hk.2) (.slice Ao95 l0_5.length co95)) (fun _ hk => hk.1), hx_ HB, kx_ HK⟩
  ·exact absurd hk2 c20
end Go.Proofs.Ytfjhlcbpogihmaa.Pr
