/- Several texts of one depth, laid together. Conditions: none. -/
import Derived.Test.YtfjhlcbpogihmaaGNoteBytesPr0
import Derived.Test.YtfjhlcbpogihmaaGNoteBytesPr34
import Derived.Test.YtfjhlcbpogihmaaKNoteBytes1
import Derived.Test.YtfjhlcbpogihmaaKNoteBytes0
import Derived.Lib.FrozenHead
import Derived.Lib.ConvBytes
import Derived.Laws.IdiomStrings
import Derived.Test.YtfjhlcbpogihmaaGNoteBytesPackT
import Derived.Test.YtfjhlcbpogihmaaGNoteBytesPr18
namespace Go.Proofs.Ytfjhlcbpogihmaa.Pr
open Go.RowKit Go.Proofs.YtfjhlcbpogihmaaW.PrintWords Go.Proofs.YtfjhlcbpogihmaaW.PrintLast Go.Proofs.YtfjhlcbpogihmaaW.PrintMore
attribute [local go_sem] max2_int min2_int max_two min_two max_three min_three max_four min_four   -- for this text's walks alone
set_option linter.unusedVariables false
set_option linter.unusedSimpArgs false

/-! ### ferruleref01_Text: function 62 -/
def ferruleref01_Text.f (k : Nat) (a0 : ByteArray) : Option (ByteArray × Int) := if (a0.size : Int) > 4096 then (some ((⟨#[]⟩ : ByteArray), 4)) else ((ferruleref01_Num.f k (a0.size : Int)).bind fun bt405 => (if bt405.1.size + a0.size ≤ 9223372036854775807 then (some (bt405.1 ++ a0, 0)) else (none)))
theorem ferruleref01_Text.mono : ∀ a0 k, LeO (ferruleref01_Text.f k a0) (ferruleref01_Text.f (k + 1) a0) := by
  intro a0 k
  unfold ferruleref01_Text.f
  repeat' first
      | (with_reducible exact ferruleref01_Num.mono _ _)
      | (with_reducible exact LeO.refl _)
      | (with_reducible exact LeO.none _)
      | (with_reducible refine LeO.ite ?_ ?_)
      | (with_reducible refine LeO.bind ?_ (fun _ => ?_))
      | exact ferruleref01_Num.mono _ _
      | exact LeO.none _
      | refine LeO.ite ?_ ?_
      | refine LeO.bind ?_ (fun _ => ?_)
set_option maxHeartbeats 8000000 in
set_option maxRecDepth 100000 in
theorem ferruleref01_Text.calls (k : Nat) (a0 : ByteArray) (r1 : ByteArray) (r2 : Int) (w : World) (h : ferruleref01_Text.f k a0 = some (r1, r2)) :
    Calls Try.prog 62 #[.string a0] w fun e w' => e = .returned (.tuple #[.string r1, .int .i64 r2]) ∧ Below w.heap.size w w' := by
  have HB := Aside0.mk (Below.refl w.heap.size w)
  have H : (if (a0.size : Int) > 4096 then (some ((⟨#[]⟩ : ByteArray), 4)) else ((ferruleref01_Num.f k (a0.size : Int)).bind fun bt405 => (if bt405.1.size + a0.size ≤ 9223372036854775807 then (some (bt405.1 ++ a0, 0)) else (none)))) = some (r1, r2) := h
  clear h
  by_cases c2 : (a0.size : Int) > 4096
  · rw [if_pos c2] at H
    have c2b0 : decide (4096 < (a0.size : Int)) = true := decide_eq_true c2
    have c2b1 : decide (4096 < a0.size) = true := decide_eq_true (by omega)
    clear c2
    simp only [Option.some.injEq, Prod.mk.injEq] at H
    obtain ⟨rfl, rfl⟩ := H
    go_enter Try.func62, Try.ntmps62
    go_wp2
    go_ret2
    exact ⟨by first | rfl | (simp [errW_none, errW_some] <;> rfl) | (simp [*, errW_none, errW_some] <;> rfl), by repeat (first | (with_reducible first | exact HB.out | apply below_alloc | apply pw_below_drewN | apply below_drew1) | exact HB.out)⟩
  · rw [if_neg c2] at H
    have c2b0 : decide (4096 < (a0.size : Int)) = false := decide_eq_false c2
    have c2b1 : decide (4096 < a0.size) = false := decide_eq_false (by omega)
    clear c2
    replace H := Option.bind_eq_some_iff.mp H
    obtain ⟨⟨t405, t406⟩, A30, H⟩ := H
    replace H : (if t405.size + a0.size ≤ 9223372036854775807 then (some (t405 ++ a0, 0)) else (none)) = some (r1, r2) := H
    have A3 := Aside0.mk A30
    clear A30
    by_cases c4 : t405.size + a0.size ≤ 9223372036854775807
    · rw [if_pos c4] at H
      have c4b0 := eq_true c4
      have c4b1 : decide (t405.size + a0.size ≤ 9223372036854775807) = true := decide_eq_true c4
      try have c4b2 : (9223372036854775807 < t405.size + a0.size) = False := eq_false (Nat.not_lt.2 c4)
      simp only [Option.some.injEq, Prod.mk.injEq] at H
      obtain ⟨rfl, rfl⟩ := H
      go_enter Try.func62, Try.ntmps62
      go_wp2_with (first | ((with_reducible refine gate_callee (f := 61) rfl ?_); refine goesL_ (some 13) rfl rfl Try.func61 (by kernel_rfl) rfl #[.int .u64 (a0.size : Int)] rfl (by (try simp only [List.map_toArray, List.map_cons, List.map_nil]); first | done | rfl | (simp only [List.length_drop, List.length_take]; rfl)) ?_; (with_reducible refine (ferruleref01_Num.calls k (a0.size : Int) t405 t406 _ A3.out).mono ?_); rintro e w5 ⟨rfl, hb⟩; refine ⟨_, rfl, ?_⟩; have n0_ := Aside0.mk (below_step (by repeat (first | (with_reducible first | exact HB.out | apply below_alloc | apply pw_below_drewN | apply below_drew1) | exact HB.out | exact Below.refl _ _)) hb); clear HB; have HB := n0_; clear n0_; (try clear hb); (try clear hb2); (try clear hk); (try clear hi)))
      go_ret2
      exact ⟨by first | rfl | (simp [errW_none, errW_some] <;> rfl) | (simp [*, errW_none, errW_some] <;> rfl), by repeat (first | (with_reducible first | exact HB.out | apply below_alloc | apply pw_below_drewN | apply below_drew1) | exact HB.out)⟩
    · rw [if_neg c4] at H
      exact absurd H (by simp)

/-! ### ferruleref02_four: function 88 -/
def ferruleref02_four.f (a0 : Int) : Option (ByteArray) := some (strOfNums (([((Int.tdiv a0 16777216) % 4294967296) % 256, ((Int.tdiv a0 65536) % 4294967296) % 256, ((Int.tdiv a0 256) % 4294967296) % 256, (Int.tmod a0 256) % 256] : List Int)))
set_option maxHeartbeats 8000000 in
set_option maxRecDepth 100000 in
theorem ferruleref02_four.calls (a0 : Int) (r : ByteArray) (w : World) (h : ferruleref02_four.f a0 = some r) :
    Calls Try.prog 88 #[.int .u32 a0] w fun e w' => e = .returned (.string r) ∧ Below w.heap.size w w' := by
  have HB := Aside0.mk (Below.refl w.heap.size w)
  have H : (some (strOfNums (([((Int.tdiv a0 16777216) % 4294967296) % 256, ((Int.tdiv a0 65536) % 4294967296) % 256, ((Int.tdiv a0 256) % 4294967296) % 256, (Int.tmod a0 256) % 256] : List Int)))) = some r := h
  clear h
  obtain ⟨y407, hy407⟩ : ∃ y_ : List Int, y_ = (([((Int.tdiv a0 16777216) % 4294967296) % 256, ((Int.tdiv a0 65536) % 4294967296) % 256, ((Int.tdiv a0 256) % 4294967296) % 256, (Int.tmod a0 256) % 256] : List Int)) := ⟨_, rfl⟩
  replace H : (some (strOfNums y407)) = some r := by first | (rw [hy407]; with_reducible exact H) | (have H2_ := (Option.bind_some _ _).symm.trans H; rw [hy407]; with_reducible exact H2_) | (have H2_ := (Option.bind_some _ _).symm.trans H; with_reducible exact H2_) | with_reducible exact H | (rw [hy407]; exact H) | exact H
  have Ny407 := Aside0.mk hy407
  clear hy407
  obtain rfl := Option.some.inj H
  go_enter Try.func88, Try.ntmps88
  go_wp2_with (first | ((with_reducible refine gate_dst (N := 17) rfl ?_); refine Kd.R_lit (Kd.int .u8) _ 5 ?hg (N := 17) ?hd (xs := ([((Int.tdiv a0 16777216) % 4294967296) % 256, ((Int.tdiv a0 65536) % 4294967296) % 256, ((Int.tdiv a0 256) % 4294967296) % 256, (Int.tmod a0 256) % 256] : List Int)) (inner := [.int .u8 (((Int.tdiv a0 16777216) % 4294967296) % 256), .int .u8 (((Int.tdiv a0 65536) % 4294967296) % 256), .int .u8 (((Int.tdiv a0 256) % 4294967296) % 256), .int .u8 ((Int.tmod a0 256) % 256)]) (ok := fun _ => True) (okp := fun _ => True) ?hr ?hp (fun _ hk => hk) trivial (Below.refl _ _) (Nat.le_refl _) (by simp) ?_; (case hd => rfl); (case hg => rfl); (case hr => first | (go_simp; done) | (go_simp; rfl)); (case hp => exact (Reps.one (show Kd.M (Kd.int .u8) _ _ _ (((Int.tdiv a0 16777216) % 4294967296) % 256) [.int .u8 (((Int.tdiv a0 16777216) % 4294967296) % 256)] from rfl) (Reps.one (show Kd.M (Kd.int .u8) _ _ _ (((Int.tdiv a0 65536) % 4294967296) % 256) [.int .u8 (((Int.tdiv a0 65536) % 4294967296) % 256)] from rfl) (Reps.one (show Kd.M (Kd.int .u8) _ _ _ (((Int.tdiv a0 256) % 4294967296) % 256) [.int .u8 (((Int.tdiv a0 256) % 4294967296) % 256)] from rfl) (Reps.one (show Kd.M (Kd.int .u8) _ _ _ ((Int.tmod a0 256) % 256) [.int .u8 ((Int.tmod a0 256) % 256)] from rfl) (Reps.none _ _)))))); intro v408 w2 ho3 hb hg_ hnew_; clear hg_ hnew_; (first | rw [← Ny407.out] at ho3 | (simp only [Int.reduceToNat] at ho3; rw [← Ny407.out] at ho3)); have n0_ := Aside0.mk (Kd.R_lower ho3 (below_size (by repeat (first | (with_reducible first | exact HB.out | apply below_alloc | apply pw_below_drewN | apply below_drew1) | exact HB.out)))); have n1_ := Aside0.mk (below_step (by repeat (first | (with_reducible first | exact HB.out | apply below_alloc | apply pw_below_drewN | apply below_drew1) | exact HB.out | exact Below.refl _ _)) hb); clear HB; have HO409 := n0_; have HB := n1_; clear n0_ n1_; clear hb ho3; have hcv4 := own_string (P := Try.prog) Try.underlying81 Try.underlying5 Try.underlying9 (Kd.own_of_R HO409.out)))
  go_ret
  exact ⟨by first | rfl | (simp [errW_none, errW_some] <;> rfl) | (simp [*, errW_none, errW_some] <;> rfl), by repeat (first | (with_reducible first | exact HB.out | apply below_alloc | apply pw_below_drewN | apply below_drew1) | exact HB.out)⟩

end Go.Proofs.Ytfjhlcbpogihmaa.Pr
namespace Go.Proofs.Ytfjhlcbpogihmaa.Pr
open Go.RowKit Go.Proofs.YtfjhlcbpogihmaaW.PrintWords Go.Proofs.YtfjhlcbpogihmaaW.PrintLast Go.Proofs.YtfjhlcbpogihmaaW.PrintMore
attribute [local go_sem] max2_int min2_int max_two min_two max_three min_three max_four min_four   -- for this text's walks alone
set_option linter.unusedVariables false
set_option linter.unusedSimpArgs false

/-! ### ferruleref02_Put: function 63 -/
def ferruleref02_Put.f (k : Nat) (a0 : ByteArray) : Option (ByteArray × Int) := if (a0.size : Int) > 65536 then (some ((⟨#[]⟩ : ByteArray), 4)) else ((ferruleref01_Num.f k (a0.size : Int)).bind fun bt410 => (if bt410.1.size + a0.size ≤ 9223372036854775807 then ((ferruleref02_Sum.f k (bt410.1 ++ a0)).bind fun t412 => ((ferruleref02_four.f t412).bind fun t413 => (if (bt410.1 ++ a0).size + t413.size ≤ 9223372036854775807 then (some ((bt410.1 ++ a0) ++ t413, 0)) else (none)))) else (none)))
theorem ferruleref02_Put.mono : ∀ a0 k, LeO (ferruleref02_Put.f k a0) (ferruleref02_Put.f (k + 1) a0) := by
  intro a0 k
  unfold ferruleref02_Put.f
  repeat' first
      | (with_reducible exact ferruleref01_Num.mono _ _)
      | (with_reducible exact ferruleref02_Sum.mono _ _)
      | (with_reducible exact LeO.refl _)
      | (with_reducible exact LeO.none _)
      | (with_reducible refine LeO.ite ?_ ?_)
      | (with_reducible refine LeO.bind ?_ (fun _ => ?_))
      | exact ferruleref01_Num.mono _ _
      | exact ferruleref02_Sum.mono _ _
      | exact LeO.none _
      | refine LeO.ite ?_ ?_
      | refine LeO.bind ?_ (fun _ => ?_)
set_option maxHeartbeats 8000000 in
set_option maxRecDepth 100000 in
theorem ferruleref02_Put.calls (k : Nat) (a0 : ByteArray) (r1 : ByteArray) (r2 : Int) (w : World) (h : ferruleref02_Put.f k a0 = some (r1, r2)) :
    Calls Try.prog 63 #[.string a0] w fun e w' => e = .returned (.tuple #[.string r1, .int .i64 r2]) ∧ Below w.heap.size w w' := by
  have HB := Aside0.mk (Below.refl w.heap.size w)
  have H : (if (a0.size : Int) > 65536 then (some ((⟨#[]⟩ : ByteArray), 4)) else ((ferruleref01_Num.f k (a0.size : Int)).bind fun bt410 => (if bt410.1.size + a0.size ≤ 9223372036854775807 then ((ferruleref02_Sum.f k (bt410.1 ++ a0)).bind fun t412 => ((ferruleref02_four.f t412).bind fun t413 => (if (bt410.1 ++ a0).size + t413.size ≤ 9223372036854775807 then (some ((bt410.1 ++ a0) ++ t413, 0)) else (none)))) else (none)))) = some (r1, r2) := h
  clear h
  by_cases c2 : (a0.size : Int) > 65536
  · rw [if_pos c2] at H
    have c2b0 : decide (65536 < (a0.size : Int)) = true := decide_eq_true c2
    have c2b1 : decide (65536 < a0.size) = true := decide_eq_true (by omega)
    clear c2
    simp only [Option.some.injEq, Prod.mk.injEq] at H
    obtain ⟨rfl, rfl⟩ := H
    go_enter Try.func63, Try.ntmps63
    go_wp2
    go_ret2
    exact ⟨by first | rfl | (simp [errW_none, errW_some] <;> rfl) | (simp [*, errW_none, errW_some] <;> rfl), by repeat (first | (with_reducible first | exact HB.out | apply below_alloc | apply pw_below_drewN | apply below_drew1) | exact HB.out)⟩
  · rw [if_neg c2] at H
    have c2b0 : decide (65536 < (a0.size : Int)) = false := decide_eq_false c2
    have c2b1 : decide (65536 < a0.size) = false := decide_eq_false (by omega)
    clear c2
    replace H := Option.bind_eq_some_iff.mp H
    obtain ⟨⟨t410, t411⟩, A30, H⟩ := H
    replace H : (if t410.size + a0.size ≤ 9223372036854775807 then ((ferruleref02_Sum.f k (t410 ++ a0)).bind fun t412 => ((ferruleref02_four.f t412).bind fun t413 => (if (t410 ++ a0).size + t413.size ≤ 9223372036854775807 then (some ((t410 ++ a0) ++ t413, 0)) else (none)))) else (none)) = some (r1, r2) := H
    have A3 := Aside0.mk A30
    clear A30
    by_cases c4 : t410.size + a0.size ≤ 9223372036854775807
    · rw [if_pos c4] at H
      have c4b0 := eq_true c4
      have c4b1 : decide (t410.size + a0.size ≤ 9223372036854775807) = true := decide_eq_true c4
      try have c4b2 : (9223372036854775807 < t410.size + a0.size) = False := eq_false (Nat.not_lt.2 c4)
      replace H := Option.bind_eq_some_iff.mp H
      obtain ⟨t412, A50, H⟩ := H
      replace H : ((ferruleref02_four.f t412).bind fun t413 => (if (t410 ++ a0).size + t413.size ≤ 9223372036854775807 then (some ((t410 ++ a0) ++ t413, 0)) else (none))) = some (r1, r2) := H
      have A5 := Aside0.mk A50
      clear A50
      replace H := Option.bind_eq_some_iff.mp H
      obtain ⟨t413, A60, H⟩ := H
      replace H : (if (t410 ++ a0).size + t413.size ≤ 9223372036854775807 then (some ((t410 ++ a0) ++ t413, 0)) else (none)) = some (r1, r2) := H
      have A6 := Aside0.mk A60
      clear A60
      by_cases c7 : (t410 ++ a0).size + t413.size ≤ 9223372036854775807
      · rw [if_pos c7] at H
        have c7b0 := eq_true c7
        have c7b1 : decide ((t410 ++ a0).size + t413.size ≤ 9223372036854775807) = true := decide_eq_true c7
        try have c7b2 : (9223372036854775807 < (t410 ++ a0).size + t413.size) = False := eq_false (Nat.not_lt.2 c7)
        have c7x : t410.size + a0.size + t413.size ≤ 9223372036854775807 := by have h_ := of_eq_true c7b0; rw [ByteArray.size_append] at h_; exact h_
        have c7x0 := eq_true c7x
        have c7x1 : decide (t410.size + a0.size + t413.size ≤ 9223372036854775807) = true := decide_eq_true c7x
        have c7x2 : (9223372036854775807 < t410.size + a0.size + t413.size) = False := eq_false (Nat.not_lt.2 c7x)
        clear c7x
        simp only [Option.some.injEq, Prod.mk.injEq] at H
        obtain ⟨rfl, rfl⟩ := H
        go_enter Try.func63, Try.ntmps63
        go_wp2_with (first | ((with_reducible refine gate_callee (f := 61) rfl ?_); refine goesL_ (some 13) rfl rfl Try.func61 (by kernel_rfl) rfl #[.int .u64 (a0.size : Int)] rfl (by (try simp only [List.map_toArray, List.map_cons, List.map_nil]); first | done | rfl | (simp only [List.length_drop, List.length_take]; rfl)) ?_; (with_reducible refine (ferruleref01_Num.calls k (a0.size : Int) t410 t411 _ A3.out).mono ?_); rintro e w8 ⟨rfl, hb⟩; refine ⟨_, rfl, ?_⟩; have n0_ := Aside0.mk (below_step (by repeat (first | (with_reducible first | exact HB.out | apply below_alloc | apply pw_below_drewN | apply below_drew1) | exact HB.out | exact Below.refl _ _)) hb); clear HB; have HB := n0_; clear n0_; (try clear hb); (try clear hb2); (try clear hk); (try clear hi)) | ((with_reducible refine gate_callee (f := 89) rfl ?_); refine goesL_ (some 22) rfl rfl Try.func89 (by kernel_rfl) rfl #[.string (t410 ++ a0)] rfl (by (try simp only [List.map_toArray, List.map_cons, List.map_nil]); first | done | rfl | (simp only [List.length_drop, List.length_take]; rfl)) ?_; (with_reducible refine (ferruleref02_Sum.calls k (t410 ++ a0) t412 _ A5.out).mono ?_); rintro e w' ⟨rfl, ⟨nd, rfl⟩⟩; refine ⟨_, rfl, ?_⟩) | ((with_reducible refine gate_callee (f := 88) rfl ?_); refine goesL_ (some 23) rfl rfl Try.func88 (by kernel_rfl) rfl #[.int .u32 t412] rfl (by (try simp only [List.map_toArray, List.map_cons, List.map_nil]); first | done | rfl | (simp only [List.length_drop, List.length_take]; rfl)) ?_; (with_reducible refine (ferruleref02_four.calls t412 t413 _ A6.out).mono ?_); rintro e w9 ⟨rfl, hb⟩; refine ⟨_, rfl, ?_⟩; have n0_ := Aside0.mk (below_step (by repeat (first | (with_reducible first | exact HB.out | apply below_alloc | apply pw_below_drewN | apply below_drew1) | exact HB.out | exact Below.refl _ _)) hb); clear HB; have HB := n0_; clear n0_; (try clear hb); (try clear hb2); (try clear hk); (try clear hi)))
        go_ret2
        exact ⟨by first | rfl | (simp [errW_none, errW_some] <;> rfl) | (simp [*, errW_none, errW_some] <;> rfl), by repeat (first | (with_reducible first | exact HB.out | apply below_alloc | apply pw_below_drewN | apply below_drew1) | exact HB.out)⟩
      · rw [if_neg c7] at H
        exact absurd H (by simp)
    · rw [if_neg c4] at H
      exact absurd H (by simp)

end Go.Proofs.Ytfjhlcbpogihmaa.Pr
namespace Go.Proofs.Ytfjhlcbpogihmaa.Pr
open Go.RowKit Go.Proofs.YtfjhlcbpogihmaaW.PrintWords Go.Proofs.YtfjhlcbpogihmaaW.PrintLast Go.Proofs.YtfjhlcbpogihmaaW.PrintMore
open Go.Proofs.Ytfjhlcbpogihmaa.Hnd
attribute [local go_sem] setCell_drewN_ alloc_drewN_
set_option linter.unusedVariables false
set_option linter.unusedSimpArgs false
/-- A row of bytes of one's own that may bear a conversion's mark behind all its places. -/
def OwnM (w : World) (base : Nat) (v : Value) (l : List UInt8) : Prop :=
  ∃ g cap cur fz, v = .slice (some ⟨g, 0, none⟩) l.length cap ∧ base ≤ g ∧ w.heap[g]? = some (.cells cur 5 fz) ∧ (fz = (0, 0) ∨ cap ≤ fz.1) ∧ l.length ≤ cap ∧ cap ≤ maxLen ∧ cur.size = cap ∧ cur.toList.take l.length = Lib.byteCells l
theorem storeM (P : Program) (g o : Nat) (t : TypeId) (fz : Nat × Nat) : ∀ (vs : List Value) (i : Nat) (cur : Array Value) (w : World), w.heap[g]? = some (.cells cur t fz) → (fz = (0, 0) ∨ cur.size ≤ fz.1) → o + i + vs.length ≤ cur.size → (∀ v ∈ vs, v.oneCell' = true) →
    (storeCells ⟨g, o, none⟩ vs i).run P w = .ok () (w.setRow g (cur.toList.take (o + i) ++ vs ++ cur.toList.drop (o + i + vs.length)).toArray)
  | [], i, cur, w, hg, _, _, _ => by
    simp only [storeCells, List.append_nil, List.length_nil, Nat.add_zero, List.take_append_drop, Array.toArray_toList]
    rw [setRow_self w g cur t fz hg]
    rfl
  | v :: rest, i, cur, w, hg, hfz, hl, h1 => by
    have hi : o + i < cur.size := by simp at hl; omega
    have hadd : (⟨g, o, none⟩ : Addr).add i = ⟨g, o + i, none⟩ := by unfold Addr.add; split <;> simp_all
    have hcell : w.cell? ⟨g, o + i, none⟩ = some cur[o + i] := by simp [World.cell?, hg, hi]
    have hfro : w.frozen? ⟨g, o + i, none⟩ = false := by
      obtain ⟨lo, hi'⟩ := fz
      simp only [World.frozen?, hg, Bool.and_eq_false_iff, decide_eq_false_iff_not]
      rcases hfz with hfz | hfz
      · injection hfz with h1 h2
        subst h1 h2
        right; omega
      · left
        simp only at hfz
        omega
    have hst : (store ((⟨g, o, none⟩ : Addr).add i) v).run P w = .ok () (w.setRow g (cur.setIfInBounds (o + i) v)) := by
      rw [hadd, run_store P w _ v _ (h1 v (by simp)), hcell]
      simp [hfro, setCell_eq_setRow w g (o + i) cur t fz v hg]
    have ih := storeM P g o t fz rest (i + 1) (cur.setIfInBounds (o + i) v) (w.setRow g (cur.setIfInBounds (o + i) v)) (setRow_heap w g cur _ t _ hg) (by simpa using hfz) (by simp at hl ⊢; omega) (fun x hx => h1 x (by simp [hx]))
    simp only [storeCells, Sem.run_bind, hst, Result.andThen_ok, ih, setRow_setRow]
    congr 3
    have e := list_seg_step cur.toList (o + i) v rest (by simp at hl ⊢; omega)
    simpa [Array.toList_setIfInBounds, Nat.add_assoc] using e
theorem OwnM.cells {w : World} {base g n cap : Nat} {l : List UInt8} (h : OwnM w base (.slice (some ⟨g, 0, none⟩) n cap) l) : ∀ j u, (Lib.byteCells l)[j]? = some u → w.cell? ⟨g, j, none⟩ = some u := by
  intro j u hu
  obtain ⟨g', cap', cur, fz, e, _, hgg, _, _, _, hcs, htake⟩ := h
  injection e with e1 e2 e3
  injection e1 with e1
  injection e1 with e1 _ _
  subst e1
  rw [cell_of_row w g j cur 5 fz hgg]
  rw [← htake, List.getElem?_take] at hu
  split at hu
  · simpa using hu
  · cases hu
/-- append of a text onto such a row. -/
theorem run_appendM (w : World) (base : Nat) (ty : TypeId) (v : Value) (l : List UInt8) (hown : OwnM w base v l) (s : ByteArray) (hb : l.length + s.size ≤ 140737488355328) (hbase : base ≤ w.heap.size) :
    ∃ v' w', (Builtin.append_ #[81, 9] ty #[v, .string s]).run Try.prog w = .ok v' w' ∧ OwnM w' base v' (l ++ s.data.toList) ∧ Below base w w' := by
  obtain ⟨i, hi, hzz⟩ := Option.map_eq_some_iff.1 (show (Try.prog.info? 5).map (fun i => (i.zero, i.size, i.bytes)) = some (some (.int .u8 0), 1, 1) by kernel_rfl)
  simp only [Prod.mk.injEq] at hzz
  obtain ⟨hz, hsize, hby⟩ := hzz
  have hown' := hown
  obtain ⟨g, cap, cur, fz, rfl, hbg, hg, hfz, hnc, hcm, hcs, htake⟩ := hown
  have hsl : s.data.toList.length = s.size := by rw [Array.length_toList]; rfl
  have hbl : (Lib.byteCells l).length = l.length := Lib.byteCells_length l
  have hcat : Lib.byteCells l ++ Lib.strCells s = Lib.byteCells (l ++ s.data.toList) := by rw [Lib.strCells_eq]; simp [Lib.byteCells]
  by_cases hroom : l.length + s.size ≤ cap
  · have hf := Lib.run_firstCells_string (P := Try.prog) w 1 s
    have hst := storeM Try.prog g l.length 5 fz (Lib.strCells s) 0 cur w hg (by rw [hcs]; exact hfz) (by rw [Lib.strCells_length]; omega) (Lib.strCells_oneCell s)
    simp only [Nat.add_zero, Lib.strCells_length] at hst
    have hr : (Builtin.append_ #[81, 9] ty #[.slice (some ⟨g, 0, none⟩) l.length cap, .string s]).run Try.prog w = .ok (.slice (some ⟨g, 0, none⟩) (l.length + s.size) cap) (w.setRow g (cur.toList.take l.length ++ Lib.strCells s ++ cur.toList.drop (l.length + s.size)).toArray) := by
      simp [Builtin.append_, run_underlying Try.underlying81, run_underlying Try.underlying9, sizeOf, typeInfo, hi, hsize, Builtin.lenOf, hroom, hf, Addr.add_lit, hst]
    refine ⟨_, _, hr, ⟨g, cap, _, fz, ?_, hbg, setRow_heap w g cur _ 5 _ hg, hfz, ?_, hcm, ?_, ?_⟩, ⟨rfl, rfl, rfl, by simp, fun k hk => setRow_other w g k _ (by omega)⟩⟩
    · rw [List.length_append, hsl]
    · rw [List.length_append, hsl]; exact hroom
    · simp only [List.size_toArray, List.length_append, List.length_take, List.length_drop, Array.length_toList, Lib.strCells_length]
      omega
    · rw [← hcat, htake]
      have : (l ++ s.data.toList).length = (Lib.byteCells l ++ Lib.strCells s).length := by rw [List.length_append, List.length_append, hbl, Lib.strCells_length, hsl]
      rw [this]
      exact List.take_left
  · have holds : ∀ j u, (Lib.byteCells l)[j]? = some u → w.cell? ((⟨g, 0, none⟩ : Addr).add j) = some u := fun j u hj => by
      have ha : (⟨g, 0, none⟩ : Addr).add j = ⟨g, j, none⟩ := by unfold Addr.add; split <;> simp_all
      rw [ha]
      exact hown'.cells j u hj
    have hr := Lib.run_append_grow_string (P := Try.prog) w 81 9 ty 5 i (.int .u8 0) Try.underlying81 Try.underlying9 hi hz ⟨g, 0, none⟩ l.length cap (Lib.byteCells l) (by rw [hsize, hbl, Nat.mul_one]) holds s (by omega) (by omega) (by rw [hby]; exact growslice_fits (by omega) (by omega))
    have hge := grownCap_ge w (l.length + s.size) cap 5
    have hcm2 : grownCap w (l.length + s.size) cap 5 ≤ maxLen := grownCap_le_maxLen w (l.length + s.size) cap 5 (by unfold maxLen; omega)
    refine ⟨_, _, hr, ⟨w.heap.size, _, _, (0, 0), ?_, hbase, heap_alloc_new w.drew _, .inl rfl, ?_, hcm2, ?_, ?_⟩, ⟨rfl, rfl, rfl, by simp, fun k hk => heap_alloc_old w.drew _ (by have : w.drew.heap.size = w.heap.size := rfl; omega)⟩⟩
    · rw [List.length_append, hsl]
    · rw [List.length_append, hsl]; exact hge
    · have hz1 : (Value.int IntKind.u8 0).cells.size = 1 := rfl
      simp only [Array.size_append, List.size_toArray, size_zeroCells, hz1, hbl, Lib.strCells_length]
      omega
    · simp only [Array.toList_append, List.append_assoc]
      rw [← List.append_assoc, hcat]
      have : (l ++ s.data.toList).length = (Lib.byteCells (l ++ s.data.toList)).length := (Lib.byteCells_length _).symm
      rw [this]
      exact List.take_left
theorem wpList_appendM {ops : Array Oper} {rest : List Oper} {o : Oper} {a : Act} {w : World} {Q : Exit → Act → World → Prop} (hgd : o.guard = none) (sl x : Operand)
    (ho : o.op = .call { callee := .builtin .append, args := #[sl, x], argTypes := #[81, 9] }) (base : Nat)
    (v : Value) (l : List UInt8) (hs : a.eval sl = v) (hown : OwnM w base v l) (s : ByteArray) (hx : a.eval x = .string s) (hbytes : l.length + s.size ≤ 140737488355328) (hbase : base ≤ w.heap.size)
    (h : ∀ v' w', OwnM w' base v' (l ++ s.data.toList) → Below base w w' → wpList Try.prog ops Q rest (a.put o.dst v') w') : wpList Try.prog ops Q (o :: rest) a w := by
  refine wpList_plain hgd fun K hK => ?_
  obtain ⟨v', w', hr, h2, h3⟩ := run_appendM w base o.type v l hown s hbytes hbase
  unfold Oper.wp execOp
  simp only [ho, resolve, invoke, builtin, Sem.run_bind, Sem.run_pure, Result.andThen_ok, List.map_toArray, List.map_cons, List.map_nil, hs, hx, hr]
  exact hK _ _ (h v' w' h2 h3)
theorem OwnM.conv (w : World) (base : Nat) (s : ByteArray) (hbase : base ≤ w.heap.size) (hs : s.size ≤ maxLen) : OwnM (Lib.bytesWorld w 5 s) base (.slice (some ⟨w.heap.size, 0, none⟩) s.size (grownCap w s.size 0 5)) s.data.toList := by
  have hsl : s.data.toList.length = s.size := by rw [Array.length_toList]; rfl
  have hge := grownCap_ge w s.size 0 5
  have hsz : (Lib.bytesCells w 5 s).size = grownCap w s.size 0 5 := by
    unfold Lib.bytesCells
    rw [Array.size_append, Array.size_map, Array.size_replicate]
    have : s.data.size = s.size := rfl
    omega
  refine ⟨w.heap.size, _, _, _, by rw [hsl], hbase, Lib.bytesWorld_at_new w 5 s, .inr (by rw [hsz]; exact Nat.le_refl _), by rw [hsl]; exact hge, grownCap_le_maxLen w s.size 0 5 hs, hsz, ?_⟩
  unfold Lib.bytesCells
  rw [Array.toList_append, Array.toList_map, List.take_append_of_le_length (by simp [hsl]), List.take_of_length_le (by simp)]
  rfl
theorem OwnM.below {w w' : World} {base : Nat} {v : Value} {l : List UInt8} (h : OwnM w base v l) (hb : Below w.heap.size w w') : OwnM w' base v l := by
  obtain ⟨g, cap, cur, fz, e, hbg, hg, r⟩ := h
  refine ⟨g, cap, cur, fz, e, hbg, ?_, r⟩
  have : g < w.heap.size := (Array.getElem?_eq_some_iff.1 hg).1
  rw [hb.block g this]
  exact hg
theorem OwnM.str {w : World} {base : Nat} {v : Value} {l : List UInt8} (h : OwnM w base v l) : (convert 81 9 v).run Try.prog w = .ok (.string ⟨l.toArray⟩) w := by
  have h' := h
  obtain ⟨g, cap, cur, fz, rfl, hbg, hg, r⟩ := h
  refine run_convert_bytes_back w 81 9 5 ⟨g, 0, none⟩ cap l Try.underlying81 Try.underlying5 Try.underlying9 (fun j hj => ?_)
  have ha : (⟨g, 0, none⟩ : Addr).add j = ⟨g, j, none⟩ := by unfold Addr.add; split <;> simp_all
  rw [ha]
  exact h'.cells j _ (by simp [Lib.byteCells, hj])
theorem OwnM.form {w : World} {base : Nat} {v : Value} {l : List UInt8} (h : OwnM w base v l) : ∃ A cap, v = .slice A l.length cap := by
  obtain ⟨g, cap, cur, fz, rfl, _⟩ := h
  exact ⟨_, _, rfl⟩
/-- The bytes of numbers, behind those that are there, as the document has it. -/
def rnumsF (k : Nat) : List Int → List UInt8 → Option (ByteArray × Int)
  | [], acc => some (⟨acc.toArray⟩, 0)
  | v :: r, acc => (ferruleref01_Num.f k v).bind fun b => if b.2 = 0 then (if acc.length + b.1.size ≤ 140737488355328 then rnumsF k r (acc ++ b.1.data.toList) else none) else some ((⟨#[]⟩ : ByteArray), b.2)
def ref_Nums.f (k : Nat) (l0 : List Int) : Option (ByteArray × Int) := if l0.length ≤ 1048576 then (ferruleref01_Num.f k (l0.length : Int)).bind fun b => (if b.1.size ≤ 140737488355328 then rnumsF k l0 b.1.data.toList else none) else none
theorem rnumsF_mono (k : Nat) : ∀ l acc, LeO (rnumsF k l acc) (rnumsF (k + 1) l acc)
  | [], _ => LeO.refl _
  | v :: r, acc => LeO.bind (ferruleref01_Num.mono _ _) (fun b => LeO.ite (LeO.ite (rnumsF_mono k r _) (LeO.refl _)) (LeO.refl _))
theorem ref_Nums.mono : ∀ a0 k, LeO (ref_Nums.f k a0) (ref_Nums.f (k + 1) a0) := fun l k =>
  LeO.ite (LeO.bind (ferruleref01_Num.mono _ _) (fun b => LeO.ite (rnumsF_mono k l _) (LeO.refl _))) (LeO.refl _)
theorem below_trans'' {w w1 w2 : World} (h : Below w.heap.size w w1) (h2 : Below w.heap.size w1 w2) : Below w.heap.size w w2 := h.trans h2
set_option maxHeartbeats 4000000 in
set_option maxRecDepth 100000 in
theorem ref_Nums.calls (k : Nat) (A0 : Option Addr) (c0 : Nat) (l0 : List Int) (r1 : ByteArray) (r2 : Int) (w : World) (hr0 : Kd.C (Kd.int .u64) w A0 l0.length l0) (hc0 : l0.length ≤ c0) (h : ref_Nums.f k l0 = some (r1, r2)) :
    Calls Try.prog 60 #[.slice A0 l0.length c0] w fun e w' => e = .returned (.tuple #[.string r1, .int .i64 r2]) ∧ Below w.heap.size w w' := by
  unfold ref_Nums.f at h
  by_cases hl : l0.length ≤ 1048576
  rotate_left
  · rw [if_neg hl] at h; cases h
  rw [if_pos hl] at h
  replace h := Option.bind_eq_some_iff.mp h
  obtain ⟨⟨s0, e0⟩, hN0, h⟩ := h
  dsimp only at h
  by_cases hs0 : s0.size ≤ 140737488355328
  rotate_left
  · rw [if_neg hs0] at h; cases h
  rw [if_pos hs0] at h
  have HR := Aside0.mk hr0
  have HL := Aside0.mk hl
  have HF := Aside0.mk h
  have HN0 := Aside0.mk hN0
  have HS0 := Aside0.mk hs0
  have hwl : IntKind.u64.wrap (l0.length : Int) = (l0.length : Int) := by simp [IntKind.wrap, IntKind.signed, IntKind.bits]; omega
  clear hr0 hc0 hl h hN0 hs0
  go_enter Try.func60, Try.ntmps60
  go_wp2_with fail
  refine (ferruleref01_Num.calls k _ s0 e0 _ HN0.out).mono ?_
  rintro e w1 ⟨rfl, hb⟩
  have HB1 := Aside0.mk (below_call (Below.refl w.heap.size w) hb)
  clear hb
  have hcv := Lib.run_convert_string_bytes (P := Try.prog) w1 9 81 5 s0 Try.underlying9 Try.underlying81 Try.underlying5
  go_wp2_with fail
  have HO := Aside0.mk (OwnM.conv w1 w.heap.size s0 HB1.out.size (by have := HS0.out; unfold maxLen; omega))
  have HB2 := Aside0.mk (bytes_below (below_trans'' HB1.out (Below.refl _ _)) HB1.out.size 5 s0)
  clear hcv
  generalize Lib.bytesWorld w1 5 s0 = w2 at HO HB2 ⊢
  generalize hv : (Value.slice (some ⟨w1.heap.size, 0, none⟩) s0.size (grownCap w1 s0.size 0 5)) = v at HO ⊢
  clear hv
  go_loopg [6, 7, 8, 9] l0.length (fun g v6 v7 v8 v9 wr => ∃ (i : Nat) (acc : List UInt8), v7 = .int .i64 (i : Int) ∧ Aside0 (i ≤ l0.length ∧ l0.length - i ≤ g) ∧ Aside0 (rnumsF k (l0.drop i) acc = some (r1, r2)) ∧ Aside0 (OwnM wr w.heap.size v6 acc) ∧ Aside0 (Below w.heap.size w wr))
  case atStart => exact ⟨0, s0.data.toList, rfl, ⟨by omega⟩, HF, HO, HB2⟩
  case round =>
    clear HF HO HB2 HN0 HS0
    obtain ⟨i, acc, rfl, HI, HT, HO, HB⟩ := hrel
    by_cases hlt : (i : Int) < (l0.length : Int)
    · have hltb := decide_eq_true hlt
      obtain ⟨ad, hA, e0⟩ := Kd.at_int HR.out (i : Int) (by omega) hlt
      subst hA
      simp only [Int.toNat_natCast] at e0
      replace e0 := (HB.out.cell (World.block_lt_of_cell? w _ e0)).trans e0
      have hT := HT.out
      rw [List.drop_eq_getElem_cons (show i < l0.length by omega)] at hT
      have hx : rd l0 (i : Int) = l0[i] := by
        unfold rd
        simp [List.getD_eq_getElem?_getD, show i < l0.length by omega]
      rw [← hx] at hT
      obtain ⟨x, hxx⟩ : ∃ x, rd l0 (i : Int) = x := ⟨_, rfl⟩
      rw [hxx] at hT e0
      unfold rnumsF at hT
      replace hT := Option.bind_eq_some_iff.mp hT
      obtain ⟨⟨s, er⟩, hN, hT⟩ := hT
      have HN := Aside0.mk hN
      clear hN hx hxx HT
      dsimp only at hT
      by_cases her : er = 0
      · rw [if_pos her] at hT
        by_cases hsz : acc.length + s.size ≤ 140737488355328
        rotate_left
        · rw [if_neg hsz] at hT; cases hT
        rw [if_pos hsz] at hT
        have HT := Aside0.mk hT
        have hneb : (er != 0) = false := by rw [her]; rfl
        have HS := Aside0.mk hsz
        clear hT hsz
        subst her
        go_wp2_with fail
        refine (ferruleref01_Num.calls k x s 0 _ HN.out).mono ?_
        rintro e w3 ⟨rfl, hb⟩
        have HB1 := Aside0.mk (below_call HB.out hb)
        have HO1 := Aside0.mk (OwnM.below HO.out hb)
        clear hb e0
        go_wp2_with (at_builtin; refine wpList_appendM rfl _ _ rfl w.heap.size _ acc rfl HO1.out s rfl HS.out HB1.out.size ?_; intro v4 w4 ho hb; have HO4 := Aside0.mk ho; have HB4 := Aside0.mk (below_trans'' HB1.out hb); clear ho hb)
        go_roundg (gk - 1)
        case measure => have := HI.out; omega
        case rel => exact ⟨i + 1, acc ++ s.data.toList, by rw [show wrap64 ((i : Int) + 1) = ((i + 1 : Nat) : Int) from by have := HL.out; simp [wrap64]; omega], ⟨by have := HI.out; omega⟩, HT, HO4, HB4⟩
      · rw [if_neg her] at hT
        simp only [Option.some.injEq, Prod.mk.injEq] at hT
        obtain ⟨rfl, rfl⟩ := hT
        have hneb : (er != 0) = true := bne_iff_ne.mpr her
        go_wp2_with fail
        refine (ferruleref01_Num.calls k x s er _ HN.out).mono ?_
        rintro e w3 ⟨rfl, hb⟩
        have HB1 := Aside0.mk (below_call HB.out hb)
        clear hb e0
        go_wp2_with fail
        go_ret2
        exact ⟨rfl, HB1.out⟩
    · have hltb := decide_eq_false hlt
      have hie : i = l0.length := by have := HI.out; omega
      have hT := HT.out
      rw [hie, List.drop_length] at hT
      unfold rnumsF at hT
      simp only [Option.some.injEq, Prod.mk.injEq] at hT
      obtain ⟨rfl, rfl⟩ := hT
      have hcv := HO.out.str
      clear HT hie
      go_wp2_with fail
      go_ret2
      exact ⟨rfl, HB.out⟩
end Go.Proofs.Ytfjhlcbpogihmaa.Pr
namespace Go.Proofs.Ytfjhlcbpogihmaa.Pr
open Go.RowKit Go.Proofs.YtfjhlcbpogihmaaW.PrintWords Go.Proofs.YtfjhlcbpogihmaaW.PrintLast Go.Proofs.YtfjhlcbpogihmaaW.PrintMore
theorem num_loop : ∀ (d : Nat) (k : Nat) (x n i : Int) (s : ByteArray), 0 ≤ x → x < 18446744073709551616 → 0 ≤ i → n = i + d → n < 50 → s.size + d < 100 →
    ferruleref01_Num.l0 (k + d + 1) x n s i = some (strOfNums (lowB d x) ++ s, 0)
  | 0, k, x, n, i, s, hx0, hx1, hi, hn, hn1, hs => by
    show ferruleref01_Num.l0 (k + 1) x n s i = _
    unfold ferruleref01_Num.l0
    rw [if_neg (by omega)]
    simp only [lowB, strOfNums_nil, nil_ba]
  | d + 1, k, x, n, i, s, hx0, hx1, hi, hn, hn1, hs => by
    show ferruleref01_Num.l0 ((k + d + 1) + 1) x n s i = _
    unfold ferruleref01_Num.l0
    rw [if_pos (by omega)]
    simp only [Option.bind_some]
    have hz : (strOfNums [(Int.tmod x 256) % 256]).size = 1 := strOfNums_size ..
    rw [if_pos (by omega)]
    rw [Int.tdiv_eq_ediv_of_nonneg hx0, Int.tmod_eq_emod_of_nonneg hx0]
    rw [wrap_in (by omega) (by omega), wrap64_in (by omega) (by omega)]
    have hz2 : (strOfNums [x % 256 % 256] ++ s).size = 1 + s.size := by
      rw [ByteArray.size_append, strOfNums_size]; rfl
    rw [num_loop d k (x / 256) n (i + 1) _ (by omega) (by omega) (by omega) (by omega) hn1 (by omega)]
    simp only [lowB, strOfNums_append]
    rw [ba_assoc, Int.emod_emod_of_dvd _ (by omega : (256 : Int) ∣ 256)]
theorem js (k : Nat) (x n t : Int) : ferruleref01_Num.j0 (k + 3) x n t = ferruleref01_Num.l0 k (IntKind.u64.wrap (x + (if n = 8 then 13835058055282163712 else if n = 4 then 2147483648 else t))) n (⟨#[]⟩ : ByteArray) 0 := by
  simp only [ferruleref01_Num.j0, ferruleref01_Num.j1, ferruleref01_Num.j2]
  by_cases h4 : n = 4
  · subst h4; simp
  · by_cases h8 : n = 8
    · subst h8; simp
    · simp only [if_neg h4, if_neg h8]
theorem refnum {v : Int} (h : inU64 v) : ferruleref01_Num.f 20 v = some (strOfNums (numL v), numE v) := by
  have hr : ferruleref01_Size.f v = some (sizeI v) := by
    unfold ferruleref01_Size.f sizeI
    repeat (first | rfl | split)
  obtain ⟨hv0, hv1⟩ := h
  unfold ferruleref01_Num.f
  rw [hr]
  simp only [Option.bind_some]
  unfold numE
  rcases sizeI_cases v with ⟨h1, h2⟩ | ⟨h0, h1, h2⟩ | ⟨h0, h1, h2⟩ | ⟨h0, h1, h2⟩ | ⟨h0, h2⟩
  · rw [h2, if_neg (by omega), if_neg (by omega), if_pos (by omega), js 17, if_neg (by omega), if_neg (by omega)]
    rw [wrap_in (by omega) (by omega), num_loop 1 15 _ _ _ _ (by omega) (by omega) (by omega) (by omega) (by omega) (by decide), ba_nil, numL_1 hv0 h1, Int.add_zero]
  · rw [h2, if_neg (by omega), if_pos (by omega), if_pos (by omega), js 17, if_neg (by omega), if_neg (by omega)]
    rw [wrap_in (by omega) (by omega), num_loop 2 14 _ _ _ _ (by omega) (by omega) (by omega) (by omega) (by omega) (by decide), ba_nil, numL_2 h0 h1]
  · rw [h2, if_neg (by omega), if_neg (by omega), if_pos (by omega), js 17, if_neg (by omega), if_pos (by omega)]
    rw [wrap_in (by omega) (by omega), num_loop 4 12 _ _ _ _ (by omega) (by omega) (by omega) (by omega) (by omega) (by decide), ba_nil, numL_4 h0 h1]
  · rw [h2, if_neg (by omega), if_neg (by omega), if_pos (by omega), js 17, if_pos (by omega)]
    rw [wrap_in (by omega) (by omega), num_loop 8 8 _ _ _ _ (by omega) (by omega) (by omega) (by omega) (by omega) (by decide), ba_nil, numL_8 h0 h1]
  · rw [h2, if_pos (by omega), if_neg (by omega), numL_0 h0]
    rfl
theorem take_nonneg : ∀ (k : Nat) (a : ByteArray) (n x i : Int) (r : Int × ByteArray × Int), 0 ≤ x → pack_TakeNum.l0 k a n x i = some r → 0 ≤ r.1
  | 0, a, n, x, i, r, hx, h => by rw [pack_TakeNum.l0] at h; exact absurd h (by simp)
  | k + 1, a, n, x, i, r, hx, h => by
    rw [pack_TakeNum.l0] at h
    split at h
    · split at h
      · split at h
        · obtain ⟨hb0, hb1⟩ := bt_range a i
          rw [or_step hb0 hb1] at h
          exact take_nonneg k a n _ _ r (by rw [IntKind.wrap_u64]; omega) h
        · exact absurd h (by simp)
      · exact absurd h (by simp)
    · rw [Option.bind_eq_some_iff] at h
      obtain ⟨z, hz, h⟩ := h
      split at h
      · split at h
        · split at h
          · have := Option.some.inj h
            subst this
            exact hx
          · exact absurd h (by simp)
        · exact absurd h (by simp)
      · have := Option.some.inj h
        subst this
        exact Int.le_refl _
theorem take_f_nonneg {k : Nat} {a : ByteArray} {r : Int × ByteArray × Int} (h : pack_TakeNum.f k a = some r) : 0 ≤ r.1 := by
  unfold pack_TakeNum.f at h
  split at h
  · have := Option.some.inj h
    subst this
    exact Int.le_refl _
  · split at h
    · split at h
      · split at h
        · have := Option.some.inj h
          subst this
          exact Int.le_refl _
        · exact take_nonneg _ _ _ _ _ _ (by rw [IntKind.wrap_u64]; omega) h
      · exact absurd h (by simp)
    · exact absurd h (by simp)
end Go.Proofs.Ytfjhlcbpogihmaa.Pr
namespace Go.Proofs.Ytfjhlcbpogihmaa.Pr
open Go.RowKit Go.Proofs.YtfjhlcbpogihmaaW.PrintWords Go.Proofs.YtfjhlcbpogihmaaW.PrintLast Go.Proofs.YtfjhlcbpogihmaaW.PrintMore
theorem extract_bytes (a : ByteArray) (n : Nat) (h : n ≤ a.size) : strOfNums ((List.range n).map fun i : Nat => bt a (i : Int)) = a.extract 0 n := by
  apply ByteArray.ext
  apply Array.ext
  · show (strOfNums _).size = (a.extract 0 n).size
    rw [strOfNums_size, ByteArray.size_extract]
    simp only [List.length_map, List.length_range]
    omega
  · intro i h1 h2
    have hi : i < n := by
      have : i < (strOfNums ((List.range n).map fun i : Nat => bt a (i : Int))).size := h1
      rw [strOfNums_size] at this
      simpa using this
    have hia : i < a.size := by omega
    have hl : (strOfNums ((List.range n).map fun i : Nat => bt a (i : Int))).data[i]'h1 = UInt8.ofNat (bt a (i : Int)).toNat := by
      simp [strOfNums]
    rw [hl]
    have hb : bt a (i : Int) = ((a[i]'hia).toNat : Int) := by
      have := bt_at a (i : Int) (by simpa using hia)
      rw [← this]
      simp
    rw [hb]
    have hr : (a.extract 0 n).data[i]'h2 = a[i]'hia := by
      simp only [ByteArray.data_extract, Array.getElem_extract, Nat.zero_add]
      rfl
    rw [hr]
    simp
theorem end_step (k : Nat) (a : ByteArray) (n x i : Int) (hx : inU64 x) (hn0 : 0 ≤ n) (hn : n ≤ a.size) (hi : ¬ i < n) : pack_TakeNum.l0 (k + 1) a n x i = if sizeI x = n then some (x, a.extract n.toNat a.size, 0) else some (0, (⟨#[]⟩ : ByteArray), 3) := by
  rw [pack_TakeNum.l0, if_neg hi, size_f hx, Option.bind_some, if_pos hn0, if_pos hn]

theorem run1 (a : ByteArray) (hs : (1 : Int) ≤ a.size) (hq : bt a 0 / 64 = 0) : ∃ v, pack_TakeNum.l0 20 a 1 (bt a 0 % 64) 1 = (if sizeI v = 1 then some (v, a.extract 1 a.size, 0) else some (0, (⟨#[]⟩ : ByteArray), 3)) ∧ inU64 v ∧ (sizeI v = 1 → numL v = [bt a 0]) := by
  have r0 := bt_range a 0
  obtain ⟨x1, e1⟩ : ∃ x, x = bt a 0 % 64 := ⟨_, rfl⟩
  refine ⟨x1, ?_, ?_, ?_⟩
  · rw [← e1]
    rw [end_step 19 a 1 x1 1 (by unfold inU64; omega) (by omega) hs (by omega)]
    rfl
  · unfold inU64; omega
  · intro hz
    have hv : 0 ≤ x1 ∧ x1 < 64 := by have := sizeI_cases x1; omega
    unfold numL
    rw [if_pos hv.2, num1_eq hv.1 hv.2]
    simp only [List.cons.injEq, and_true]
    omega
theorem run2 (a : ByteArray) (hs : (2 : Int) ≤ a.size) (hq : bt a 0 / 64 = 1) : ∃ v, pack_TakeNum.l0 20 a 2 (bt a 0 % 64) 1 = (if sizeI v = 2 then some (v, a.extract 2 a.size, 0) else some (0, (⟨#[]⟩ : ByteArray), 3)) ∧ inU64 v ∧ (sizeI v = 2 → numL v = [bt a 0, bt a 1]) := by
  have r0 := bt_range a 0
  have r1 := bt_range a 1
  obtain ⟨x1, e1⟩ : ∃ x, x = bt a 0 % 64 := ⟨_, rfl⟩
  obtain ⟨x2, e2⟩ : ∃ x, x = x1 * 256 + bt a 1 := ⟨_, rfl⟩
  refine ⟨x2, ?_, ?_, ?_⟩
  · rw [← e1]
    rw [take_step 19 a 2 x1 1 (bt a 1) x2 (by omega) (by omega) (by omega) rfl r1 (by omega) (by omega) e2.symm (by omega)]
    rw [(by omega : (1 : Int) + 1 = 2)]
    rw [end_step 18 a 2 x2 2 (by unfold inU64; omega) (by omega) hs (by omega)]
    rfl
  · unfold inU64; omega
  · intro hz
    have hv : 64 ≤ x2 ∧ x2 < 16384 := by have := sizeI_cases x2; omega
    unfold numL
    rw [if_neg (by omega), if_pos hv.2, num2_eq hv.1 hv.2]
    simp only [List.cons.injEq, and_true]
    refine ⟨?_, ?_⟩ <;> omega
theorem run4 (a : ByteArray) (hs : (4 : Int) ≤ a.size) (hq : bt a 0 / 64 = 2) : ∃ v, pack_TakeNum.l0 20 a 4 (bt a 0 % 64) 1 = (if sizeI v = 4 then some (v, a.extract 4 a.size, 0) else some (0, (⟨#[]⟩ : ByteArray), 3)) ∧ inU64 v ∧ (sizeI v = 4 → numL v = [bt a 0, bt a 1, bt a 2, bt a 3]) := by
  have r0 := bt_range a 0
  have r1 := bt_range a 1
  have r2 := bt_range a 2
  have r3 := bt_range a 3
  obtain ⟨x1, e1⟩ : ∃ x, x = bt a 0 % 64 := ⟨_, rfl⟩
  obtain ⟨x2, e2⟩ : ∃ x, x = x1 * 256 + bt a 1 := ⟨_, rfl⟩
  obtain ⟨x3, e3⟩ : ∃ x, x = x2 * 256 + bt a 2 := ⟨_, rfl⟩
  obtain ⟨x4, e4⟩ : ∃ x, x = x3 * 256 + bt a 3 := ⟨_, rfl⟩
  refine ⟨x4, ?_, ?_, ?_⟩
  · rw [← e1]
    rw [take_step 19 a 4 x1 1 (bt a 1) x2 (by omega) (by omega) (by omega) rfl r1 (by omega) (by omega) e2.symm (by omega)]
    rw [(by omega : (1 : Int) + 1 = 2)]
    rw [take_step 18 a 4 x2 2 (bt a 2) x3 (by omega) (by omega) (by omega) rfl r2 (by omega) (by omega) e3.symm (by omega)]
    rw [(by omega : (2 : Int) + 1 = 3)]
    rw [take_step 17 a 4 x3 3 (bt a 3) x4 (by omega) (by omega) (by omega) rfl r3 (by omega) (by omega) e4.symm (by omega)]
    rw [(by omega : (3 : Int) + 1 = 4)]
    rw [end_step 16 a 4 x4 4 (by unfold inU64; omega) (by omega) hs (by omega)]
    rfl
  · unfold inU64; omega
  · intro hz
    have hv : 16384 ≤ x4 ∧ x4 < 1073741824 := by have := sizeI_cases x4; omega
    unfold numL
    rw [if_neg (by omega), if_neg (by omega), if_pos hv.2, num4_eq hv.1 hv.2]
    simp only [List.cons.injEq, and_true]
    refine ⟨?_, ?_, ?_, ?_⟩ <;> omega
theorem run8 (a : ByteArray) (hs : (8 : Int) ≤ a.size) (hq : bt a 0 / 64 = 3) : ∃ v, pack_TakeNum.l0 20 a 8 (bt a 0 % 64) 1 = (if sizeI v = 8 then some (v, a.extract 8 a.size, 0) else some (0, (⟨#[]⟩ : ByteArray), 3)) ∧ inU64 v ∧ (sizeI v = 8 → numL v = [bt a 0, bt a 1, bt a 2, bt a 3, bt a 4, bt a 5, bt a 6, bt a 7]) := by
  have r0 := bt_range a 0
  have r1 := bt_range a 1
  have r2 := bt_range a 2
  have r3 := bt_range a 3
  have r4 := bt_range a 4
  have r5 := bt_range a 5
  have r6 := bt_range a 6
  have r7 := bt_range a 7
  obtain ⟨x1, e1⟩ : ∃ x, x = bt a 0 % 64 := ⟨_, rfl⟩
  obtain ⟨x2, e2⟩ : ∃ x, x = x1 * 256 + bt a 1 := ⟨_, rfl⟩
  obtain ⟨x3, e3⟩ : ∃ x, x = x2 * 256 + bt a 2 := ⟨_, rfl⟩
  obtain ⟨x4, e4⟩ : ∃ x, x = x3 * 256 + bt a 3 := ⟨_, rfl⟩
  obtain ⟨x5, e5⟩ : ∃ x, x = x4 * 256 + bt a 4 := ⟨_, rfl⟩
  obtain ⟨x6, e6⟩ : ∃ x, x = x5 * 256 + bt a 5 := ⟨_, rfl⟩
  obtain ⟨x7, e7⟩ : ∃ x, x = x6 * 256 + bt a 6 := ⟨_, rfl⟩
  obtain ⟨x8, e8⟩ : ∃ x, x = x7 * 256 + bt a 7 := ⟨_, rfl⟩
  refine ⟨x8, ?_, ?_, ?_⟩
  · rw [← e1]
    rw [take_step 19 a 8 x1 1 (bt a 1) x2 (by omega) (by omega) (by omega) rfl r1 (by omega) (by omega) e2.symm (by omega)]
    rw [(by omega : (1 : Int) + 1 = 2)]
    rw [take_step 18 a 8 x2 2 (bt a 2) x3 (by omega) (by omega) (by omega) rfl r2 (by omega) (by omega) e3.symm (by omega)]
    rw [(by omega : (2 : Int) + 1 = 3)]
    rw [take_step 17 a 8 x3 3 (bt a 3) x4 (by omega) (by omega) (by omega) rfl r3 (by omega) (by omega) e4.symm (by omega)]
    rw [(by omega : (3 : Int) + 1 = 4)]
    rw [take_step 16 a 8 x4 4 (bt a 4) x5 (by omega) (by omega) (by omega) rfl r4 (by omega) (by omega) e5.symm (by omega)]
    rw [(by omega : (4 : Int) + 1 = 5)]
    rw [take_step 15 a 8 x5 5 (bt a 5) x6 (by omega) (by omega) (by omega) rfl r5 (by omega) (by omega) e6.symm (by omega)]
    rw [(by omega : (5 : Int) + 1 = 6)]
    rw [take_step 14 a 8 x6 6 (bt a 6) x7 (by omega) (by omega) (by omega) rfl r6 (by omega) (by omega) e7.symm (by omega)]
    rw [(by omega : (6 : Int) + 1 = 7)]
    rw [take_step 13 a 8 x7 7 (bt a 7) x8 (by omega) (by omega) (by omega) rfl r7 (by omega) (by omega) e8.symm (by omega)]
    rw [(by omega : (7 : Int) + 1 = 8)]
    rw [end_step 12 a 8 x8 8 (by unfold inU64; omega) (by omega) hs (by omega)]
    rfl
  · unfold inU64; omega
  · intro hz
    have hv : 1073741824 ≤ x8 ∧ x8 < 4611686018427387904 := by have := sizeI_cases x8; omega
    unfold numL
    rw [if_neg (by omega), if_neg (by omega), if_neg (by omega), if_pos hv.2, num8_eq hv.1 hv.2]
    simp only [List.cons.injEq, and_true]
    refine ⟨?_, ?_, ?_, ?_, ?_, ?_, ?_, ?_⟩ <;> omega
theorem take_short (k : Nat) (a : ByteArray) (n : Int) (hn : shl .i64 1 (bt a 0 / 64) = n) (m : Nat) (hm : (m : Int) < n) (hma : m ≤ a.size) : pack_TakeNum.f k (a.extract 0 m) = some (0, (⟨#[]⟩ : ByteArray), 2) := by
  have hz : (a.extract 0 m).size = m := by rw [ByteArray.size_extract]; omega
  unfold pack_TakeNum.f
  by_cases h0 : m = 0
  · rw [if_pos (toList_nil.mpr (by omega))]
  · have hb : bt (a.extract 0 m) 0 = bt a 0 := by
      have h1 := bt_at (a.extract 0 m) 0 (by rw [hz]; show 0 < m; omega)
      have h2 := bt_at a 0 (by show 0 < a.size; omega)
      rw [← h1, ← h2]
      congr 1
      show ((a.extract 0 m)[0]'_).toNat = (a[0]'_).toNat
      rw [ByteArray.getElem_extract]
    obtain ⟨hb0, hb1⟩ := bt_range a 0
    rw [if_neg (by rw [toList_nil]; omega), if_pos (by omega), hb, if_pos (by omega), hn, if_pos (by omega)]
theorem take_full (a : ByteArray) : (∃ e, e ≠ 0 ∧ pack_TakeNum.f 20 a = some (0, (⟨#[]⟩ : ByteArray), e)) ∨
    ∃ (n : Nat) (v : Int), 1 ≤ n ∧ n ≤ 8 ∧ n ≤ a.size ∧ pack_TakeNum.f 20 a = some (v, a.extract n a.size, 0) ∧ inU64 v ∧ v < 4611686018427387904 ∧ strOfNums (numL v) = a.extract 0 n ∧ ∀ k m, m < n → pack_TakeNum.f k (a.extract 0 m) = some (0, (⟨#[]⟩ : ByteArray), 2) := by
  by_cases h0 : (a.size : Int) = 0
  · refine Or.inl ⟨2, by omega, ?_⟩
    unfold pack_TakeNum.f
    rw [if_pos (toList_nil.mpr h0)]
  · obtain ⟨hb0, hb1⟩ := bt_range a 0
    have key : ∀ (n : Nat) (q : Int), 1 ≤ n → n ≤ 8 → bt a 0 / 64 = q → shl .i64 1 q = (n : Int) →
        (n ≤ a.size → ∃ v, pack_TakeNum.l0 20 a (n : Int) (bt a 0 % 64) 1 = (if sizeI v = (n : Int) then some (v, a.extract n a.size, 0) else some (0, (⟨#[]⟩ : ByteArray), 3)) ∧ inU64 v ∧ (sizeI v = (n : Int) → strOfNums (numL v) = a.extract 0 n)) →
        (∃ e, e ≠ 0 ∧ pack_TakeNum.f 20 a = some (0, (⟨#[]⟩ : ByteArray), e)) ∨
        ∃ (n : Nat) (v : Int), 1 ≤ n ∧ n ≤ 8 ∧ n ≤ a.size ∧ pack_TakeNum.f 20 a = some (v, a.extract n a.size, 0) ∧ inU64 v ∧ v < 4611686018427387904 ∧ strOfNums (numL v) = a.extract 0 n ∧ ∀ k m, m < n → pack_TakeNum.f k (a.extract 0 m) = some (0, (⟨#[]⟩ : ByteArray), 2) := by
      intro n q h1 h8 hq hsh hrun
      have hshort := fun (k m : Nat) (hm : m < n) (hma : m ≤ a.size) => take_short k a (n : Int) (by rw [hq]; exact hsh) m (by omega) hma
      have hf : pack_TakeNum.f 20 a = if (a.size : Int) < (n : Int) then some (0, (⟨#[]⟩ : ByteArray), 2) else pack_TakeNum.l0 20 a (n : Int) (bt a 0 % 64) 1 := by
        unfold pack_TakeNum.f
        rw [if_neg (by rw [toList_nil]; exact h0), if_pos (by omega), if_pos (by omega), hq, hsh, and63]
      by_cases hs : (a.size : Int) < (n : Int)
      · refine Or.inl ⟨2, by omega, ?_⟩
        rw [hf, if_pos hs]
      · obtain ⟨v, hv, hi, hL⟩ := hrun (by omega)
        rw [if_neg hs, hv] at hf
        by_cases hz : sizeI v = (n : Int)
        · rw [if_pos hz] at hf
          refine Or.inr ⟨n, v, h1, h8, by omega, hf, hi, ?_, hL hz, fun k m hm => hshort k m hm (by omega)⟩
          have := sizeI_cases v
          omega
        · rw [if_neg hz] at hf
          exact Or.inl ⟨3, by omega, hf⟩
    have hcase : bt a 0 / 64 = 0 ∨ bt a 0 / 64 = 1 ∨ bt a 0 / 64 = 2 ∨ bt a 0 / 64 = 3 := by omega
    rcases hcase with h | h | h | h
    · refine key 1 0 (by omega) (by omega) h (by decide +kernel) (fun hs => ?_)
      obtain ⟨v, hv, hi, hL⟩ := run1 a (by omega) h
      refine ⟨v, hv, hi, fun hz => ?_⟩
      rw [hL hz, ← extract_bytes a 1 hs]
      rfl
    · refine key 2 1 (by omega) (by omega) h (by decide +kernel) (fun hs => ?_)
      obtain ⟨v, hv, hi, hL⟩ := run2 a (by omega) h
      refine ⟨v, hv, hi, fun hz => ?_⟩
      rw [hL hz, ← extract_bytes a 2 hs]
      rfl
    · refine key 4 2 (by omega) (by omega) h (by decide +kernel) (fun hs => ?_)
      obtain ⟨v, hv, hi, hL⟩ := run4 a (by omega) h
      refine ⟨v, hv, hi, fun hz => ?_⟩
      rw [hL hz, ← extract_bytes a 4 hs]
      rfl
    · refine key 8 3 (by omega) (by omega) h (by decide +kernel) (fun hs => ?_)
      obtain ⟨v, hv, hi, hL⟩ := run8 a (by omega) h
      refine ⟨v, hv, hi, fun hz => ?_⟩
      rw [hL hz, ← extract_bytes a 8 hs]
      rfl
end Go.Proofs.Ytfjhlcbpogihmaa.Pr
namespace Go.Proofs.Ytfjhlcbpogihmaa.Pr
open Go.RowKit Go.Proofs.YtfjhlcbpogihmaaW.PrintWords Go.Proofs.YtfjhlcbpogihmaaW.PrintLast Go.Proofs.YtfjhlcbpogihmaaW.PrintMore
set_option linter.unusedVariables false
set_option linter.unusedSimpArgs false
theorem numL_le8 (v : Int) : (strOfNums (numL v)).size ≤ 8 := by
  have h := size_num v
  rcases sizeI_cases v with h1 | h1 | h1 | h1 | h1 <;> omega
theorem refnum_ev {v : Int} (h : inU64 v) : Ev (fun k => ferruleref01_Num.f k v) (strOfNums (numL v), numE v) := Ev.of (fun k => ferruleref01_Num.mono v k) (refnum h)
theorem nums_both : ∀ (l : List Int) (acc : List UInt8), (∀ x, x ∈ l → inU64 x) → acc.length + 8 * l.length ≤ 140737488355328 → ∃ r, numsF l acc = some r ∧ Ev (fun k => rnumsF k l acc) r
  | [], acc, _, _ => ⟨_, rfl, Ev.now _⟩
  | v :: l, acc, hl, hb => by
    have hv := hl v (List.mem_cons_self ..)
    have h8 := numL_le8 v
    rw [List.length_cons] at hb
    unfold numsF
    rw [num_f hv]
    simp only [Option.bind_some]
    by_cases he : numE v = 0
    · rw [if_pos he, if_pos (by omega)]
      obtain ⟨r, h1, h2⟩ := nums_both l (acc ++ (strOfNums (numL v)).data.toList) (fun x hx => hl x (List.mem_cons_of_mem _ hx)) (by
        have : (strOfNums (numL v)).data.toList.length = (strOfNums (numL v)).size := by rw [Array.length_toList]; rfl
        rw [List.length_append]
        omega)
      refine ⟨r, h1, ?_⟩
      refine Ev.congr (f := fun k => (ferruleref01_Num.f k v).bind fun b => if b.2 = 0 then (if acc.length + b.1.size ≤ 140737488355328 then rnumsF k l (acc ++ b.1.data.toList) else none) else some ((⟨#[]⟩ : ByteArray), b.2)) (fun k => by rw [rnumsF]) ?_
      refine Ev.bind (refnum_ev hv) ?_
      refine Ev.congr (fun k => ?_) h2
      rw [if_pos he, if_pos (by dsimp only; omega)]
    · rw [if_neg he]
      refine ⟨_, rfl, ?_⟩
      refine Ev.congr (f := fun k => (ferruleref01_Num.f k v).bind fun b => if b.2 = 0 then (if acc.length + b.1.size ≤ 140737488355328 then rnumsF k l (acc ++ b.1.data.toList) else none) else some ((⟨#[]⟩ : ByteArray), b.2)) (fun k => by rw [rnumsF]) ?_
      refine Ev.bind (refnum_ev hv) ?_
      exact Ev.congr (f := fun _ => some ((⟨#[]⟩ : ByteArray), numE v)) (fun k => by rw [if_neg he]) (Ev.now _)
theorem lists_both (l : List Int) (hl : ∀ x, x ∈ l → inU64 x) (hlen : l.length ≤ 1048576) : ∃ r, pack_Nums.f l = some r ∧ Ev (fun k => ref_Nums.f k l) r := by
  have hv : inU64 (l.length : Int) := ⟨by omega, by omega⟩
  have h8 := numL_le8 (l.length : Int)
  have he : numE (l.length : Int) = 0 := by unfold numE; exact if_pos (by omega)
  have hn := num_f hv
  have hr := refnum_ev hv
  rw [he] at hn hr
  generalize strOfNums (numL (l.length : Int)) = s0 at h8 hn hr
  have hd : s0.data.toList.length = s0.size := by rw [Array.length_toList]; rfl
  obtain ⟨r, h1, h2⟩ := nums_both l s0.data.toList hl (by omega)
  refine ⟨r, ?_, ?_⟩
  · have e : numsF ((l.length : Int) :: l) [] = (pack_Num.f (l.length : Int)).bind fun b => if b.2 = 0 then (if ([] : List UInt8).length + b.1.size ≤ 140737488355328 then numsF l ([] ++ b.1.data.toList) else none) else some ((⟨#[]⟩ : ByteArray), b.2) := by rw [numsF]
    unfold pack_Nums.f
    rw [if_pos hlen, e, hn]
    simp only [Option.bind_some, List.length_nil, List.nil_append, Nat.zero_add, if_true]
    rw [if_pos (by omega)]
    exact h1
  · unfold ref_Nums.f
    simp only [if_pos hlen]
    refine Ev.bind hr ?_
    refine Ev.congr (fun k => ?_) h2
    exact if_pos (by dsimp only; omega)
/-- What is taken, by both. -/
theorem take_all (a : ByteArray) : ∃ r, Ev (fun k => pack_TakeNum.f k a) r ∧ Ev (fun k => ferruleref01_TakeNum.f k a) r ∧ inU64 r.1 ∧ (r.2.2 = 0 → r.2.1.size < a.size) := by
  obtain ⟨r, h1, h2⟩ := take_both a
  refine ⟨r, Ev.of (fun k => pack_TakeNum.mono a k) h1, Ev.of (fun k => ferruleref01_TakeNum.mono a k) h2, ?_⟩
  rcases take_full a with ⟨e, he, h⟩ | ⟨n, v, hn1, hn8, hna, h, hv, _⟩
  · rw [h] at h1
    obtain rfl := Option.some.inj h1
    exact ⟨⟨Int.le_refl 0, show (0 : Int) ≤ 18446744073709551615 by decide⟩, fun h => absurd h he⟩
  · rw [h] at h1
    obtain rfl := Option.some.inj h1
    refine ⟨hv, fun _ => ?_⟩
    show (a.extract n a.size).size < a.size
    rw [ByteArray.size_extract]
    omega
theorem several_both (N : Int) (hN : N < 18446744073709551616) : ∀ (m : Nat) (s : ByteArray) (out : List Int) (n i : Nat), s.size ≤ m → out.length + s.size ≤ 2097152 → (i : Int) + n = N →
    ∃ r, Ev (fun k => severalF k n s out) r ∧ Ev (fun k => ferruleref01_TakeNums.l0 k N s out (i : Int)) r ∧ r.1.length ≤ 2097152
  | m, s, out, 0, i, hs, hb, hi => by
    refine ⟨(out, s, 0), Ev.congr (f := fun _ => some (out, s, 0)) (fun k => by rw [severalF]) (Ev.now _), ?_, by show out.length ≤ _; omega⟩
    exact Ev.step (f := fun _ => some (out, s, 0)) (fun k => by rw [ferruleref01_TakeNums.l0, if_neg (by omega)]) (Ev.now _)
  | m, s, out, n + 1, i, hs, hb, hi => by
    obtain ⟨r, h1, h2, hu, hsz⟩ := take_all s
    have hwi : IntKind.u64.wrap ((i : Int) + 1) = ((i + 1 : Nat) : Int) := by simp [IntKind.wrap, IntKind.signed, IntKind.bits]; omega
    by_cases he : r.2.2 = 0
    · have hlt := hsz he
      match m, hs with
      | 0, hs => omega
      | m + 1, hs =>
        obtain ⟨q, q1, q2, q3⟩ := several_both N hN m r.2.1 (out ++ [r.1]) n (i + 1) (by omega) (by rw [List.length_append, List.length_singleton]; omega) (by omega)
        refine ⟨q, ?_, ?_, q3⟩
        · refine Ev.congr (f := fun k => (pack_TakeNum.f k s).bind fun b => if b.2.2 = 0 then (if out.length < 17592186044415 then severalF k n b.2.1 (out ++ [b.1]) else none) else some ([], (⟨#[]⟩ : ByteArray), b.2.2)) (fun k => by rw [severalF]) ?_
          refine Ev.bind h1 ?_
          refine Ev.congr (fun k => ?_) q1
          rw [if_pos he, if_pos (by omega)]
        · refine Ev.step (f := fun k => (ferruleref01_TakeNum.f k s).bind fun bt120 => (if bt120.2.2 = 0 then (if out.length < 17592186044416 then (ferruleref01_TakeNums.l0 k N bt120.2.1 (out ++ [bt120.1]) (IntKind.u64.wrap ((i : Int) + 1))) else (none)) else (some (([] : List Int), (⟨#[]⟩ : ByteArray), bt120.2.2)))) (fun k => by rw [ferruleref01_TakeNums.l0, if_pos (by omega)]) ?_
          refine Ev.bind h2 ?_
          refine Ev.congr (fun k => ?_) q2
          rw [if_pos he, if_pos (by omega), hwi]
    · refine ⟨([], (⟨#[]⟩ : ByteArray), r.2.2), ?_, ?_, by show ([] : List Int).length ≤ _; simp⟩
      · refine Ev.congr (f := fun k => (pack_TakeNum.f k s).bind fun b => if b.2.2 = 0 then (if out.length < 17592186044415 then severalF k n b.2.1 (out ++ [b.1]) else none) else some ([], (⟨#[]⟩ : ByteArray), b.2.2)) (fun k => by rw [severalF]) ?_
        refine Ev.bind h1 ?_
        exact Ev.congr (f := fun _ => some ([], (⟨#[]⟩ : ByteArray), r.2.2)) (fun k => by rw [if_neg he]) (Ev.now _)
      · refine Ev.step (f := fun k => (ferruleref01_TakeNum.f k s).bind fun bt120 => (if bt120.2.2 = 0 then (if out.length < 17592186044416 then (ferruleref01_TakeNums.l0 k N bt120.2.1 (out ++ [bt120.1]) (IntKind.u64.wrap ((i : Int) + 1))) else (none)) else (some (([] : List Int), (⟨#[]⟩ : ByteArray), bt120.2.2)))) (fun k => by rw [ferruleref01_TakeNums.l0, if_pos (by omega)]) ?_
        refine Ev.bind h2 ?_
        exact Ev.congr (f := fun _ => some ([], (⟨#[]⟩ : ByteArray), r.2.2)) (fun k => by rw [if_neg he]) (Ev.now _)
theorem takes_both (a : ByteArray) (most : Int) (ha : a.size ≤ 1048576) : ∃ r, Ev (fun k => pack_TakeNums.f k a most) r ∧ Ev (fun k => ferruleref01_TakeNums.f k a most) r ∧ r.1.length ≤ 2097152 := by
  obtain ⟨r, h1, h2, hu, hsz⟩ := take_all a
  have hin : inU r.1 = true := by
    unfold inU
    obtain ⟨h3, h4⟩ := hu
    rw [decide_eq_true h3, decide_eq_true (by omega)]
    rfl
  by_cases he : r.2.2 = 0
  · have hlt := hsz he
    by_cases hm : most < 0
    · refine ⟨([], (⟨#[]⟩ : ByteArray), 4), ?_, ?_, by show ([] : List Int).length ≤ _; simp⟩
      · refine Ev.bind h1 ?_
        exact Ev.congr (f := fun _ => some ([], (⟨#[]⟩ : ByteArray), 4)) (fun k => by rw [if_pos hin, if_pos he, if_pos hm]) (Ev.now _)
      · refine Ev.bind h2 ?_
        refine Ev.congr (f := fun k => ferruleref01_TakeNums.j0 k r.1 r.2.1 true) (fun k => by rw [if_pos he, if_pos hm]) ?_
        exact Ev.step (f := fun _ => some ([], (⟨#[]⟩ : ByteArray), 4)) (fun k => by rw [ferruleref01_TakeNums.j0, if_pos rfl]) (Ev.now _)
    · by_cases hg : r.1 > IntKind.u64.wrap most
      · refine ⟨([], (⟨#[]⟩ : ByteArray), 4), ?_, ?_, by show ([] : List Int).length ≤ _; simp⟩
        · refine Ev.bind h1 ?_
          exact Ev.congr (f := fun _ => some ([], (⟨#[]⟩ : ByteArray), 4)) (fun k => by rw [if_pos hin, if_pos he, if_neg hm, if_pos hg]) (Ev.now _)
        · refine Ev.bind h2 ?_
          refine Ev.congr (f := fun k => ferruleref01_TakeNums.j0 k r.1 r.2.1 true) (fun k => by rw [if_pos he, if_neg hm, decide_eq_true hg]) ?_
          exact Ev.step (f := fun _ => some ([], (⟨#[]⟩ : ByteArray), 4)) (fun k => by rw [ferruleref01_TakeNums.j0, if_pos rfl]) (Ev.now _)
      · obtain ⟨q, q1, q2, q3⟩ := several_both r.1 (by have := hu.2; omega) r.2.1.size r.2.1 [] r.1.toNat 0 (Nat.le_refl _) (by simp; omega) (by have := hu.1; omega)
        refine ⟨q, ?_, ?_, q3⟩
        · refine Ev.bind h1 ?_
          exact Ev.congr (fun k => by rw [if_pos hin, if_pos he, if_neg hm, if_neg hg]) q1
        · refine Ev.bind h2 ?_
          refine Ev.congr (f := fun k => ferruleref01_TakeNums.j0 k r.1 r.2.1 false) (fun k => by rw [if_pos he, if_neg hm, decide_eq_false hg]) ?_
          exact Ev.step (f := fun k => ferruleref01_TakeNums.l0 k r.1 r.2.1 [] 0) (fun k => by rw [ferruleref01_TakeNums.j0, if_neg (by decide)]) q2
  · refine ⟨([], (⟨#[]⟩ : ByteArray), r.2.2), ?_, ?_, by show ([] : List Int).length ≤ _; simp⟩
    · refine Ev.bind h1 ?_
      exact Ev.congr (f := fun _ => some ([], (⟨#[]⟩ : ByteArray), r.2.2)) (fun k => by rw [if_pos hin, if_neg he]) (Ev.now _)
    · refine Ev.bind h2 ?_
      exact Ev.congr (f := fun _ => some ([], (⟨#[]⟩ : ByteArray), r.2.2)) (fun k => by rw [if_neg he]) (Ev.now _)
theorem texts_both (a : ByteArray) : ∃ r, pack_Text.f a = some r ∧ ferruleref01_Text.f 20 a = some r := by
  unfold pack_Text.f ferruleref01_Text.f
  by_cases h : (a.size : Int) > 4096
  · rw [if_pos h, if_pos h]
    exact ⟨_, rfl, rfl⟩
  · have hi : inU64 (a.size : Int) := by unfold inU64; omega
    rw [if_neg h, if_neg h, num_f hi, refnum hi]
    simp only [Option.bind_some]
    have hz := sizeI_cases (a.size : Int)
    have hs := size_num (a.size : Int)
    rw [if_pos (by omega), if_pos (by omega)]
    unfold numE
    rw [if_pos (by omega)]
    exact ⟨_, rfl, rfl⟩
theorem taketexts_both (a : ByteArray) : ∃ r, pack_TakeText.f 20 a = some r ∧ ferruleref01_TakeText.f 20 a = some r := by
  obtain ⟨r, h1, h2⟩ := take_both a
  have h0 := take_f_nonneg h1
  unfold pack_TakeText.f ferruleref01_TakeText.f
  rw [h1, h2]
  simp only [Option.bind_some]
  have hw : IntKind.u64.wrap (r.2.1.size : Int) ≤ r.2.1.size := by
    rw [IntKind.wrap_u64]
    omega
  by_cases c1 : r.2.2 = 0
  · rw [if_pos c1]
    by_cases c2 : r.1 > 4096
    · rw [if_pos c2]
      exact ⟨_, rfl, rfl⟩
    · rw [if_neg c2]
      by_cases c3 : r.1 > IntKind.u64.wrap (r.2.1.size : Int)
      · rw [if_pos c3]
        exact ⟨_, rfl, rfl⟩
      · rw [if_neg c3, if_pos h0, if_pos (by omega)]
        exact ⟨_, rfl, rfl⟩
  · rw [if_neg c1]
    exact ⟨_, rfl, rfl⟩
end Go.Proofs.Ytfjhlcbpogihmaa.Pr
namespace Go.Proofs.Ytfjhlcbpogihmaa.Pr
open Go.RowKit Go.Proofs.YtfjhlcbpogihmaaW.PrintWords Go.Proofs.YtfjhlcbpogihmaaW.PrintLast Go.Proofs.YtfjhlcbpogihmaaW.PrintMore
theorem sumI_range (s : ByteArray) : 0 ≤ sumI s ∧ sumI s < 4294967296 := by
  have := half_range s s.size
  unfold sumI
  omega
theorem rsum_loop (s : ByteArray) (hs : s.size ≤ 4611686018427387904) : ∀ d k i, i + d = s.size → ferruleref02_Sum.l0 (k + d + 1) s (half s i).1 (half s i).2 (i : Int) = some (sumI s)
  | 0, k, i, hi => by
    show ferruleref02_Sum.l0 (k + 1) s _ _ _ = _
    have hr := half_range s i
    have hie : i = s.size := by omega
    rw [ferruleref02_Sum.l0, if_neg (by omega)]
    unfold sumI
    rw [← hie]
    congr 1
    omega
  | d + 1, k, i, hi => by
    show ferruleref02_Sum.l0 ((k + d + 1) + 1) s _ _ _ = _
    have hr := half_range s i
    have hb := bt_range s i
    have ih := rsum_loop s hs d k (i + 1) (by omega)
    simp only [half] at ih
    rw [ferruleref02_Sum.l0, if_pos (by omega), if_pos (by omega)]
    have e1 : (((half s i).1 + (bt s i % 4294967296)) % 4294967296) % 65521 = ((half s i).1 + bt s i) % 65521 := by omega
    have e2 : (((half s i).2 + ((half s i).1 + bt s i) % 65521) % 4294967296) % 65521 = ((half s i).2 + ((half s i).1 + bt s i) % 65521) % 65521 := by omega
    rw [e1, e2, wrap64_big (by omega) (by omega)]
    exact ih
theorem rsum_f (s : ByteArray) (hs : s.size ≤ 4611686018427387904) (k : Nat) (hk : s.size + 1 ≤ k) : ferruleref02_Sum.f k s = some (sumI s) := by
  have hk2 : k = (k - s.size - 1) + s.size + 1 := by omega
  unfold ferruleref02_Sum.f
  rw [hk2]
  exact rsum_loop s hs s.size (k - s.size - 1) 0 (by omega)
theorem sum_f (s : ByteArray) (hs : s.size ≤ 4611686018427387904) : seal_Sum.f s = some (sumI s) := by
  unfold seal_Sum.f
  rw [if_pos hs]
theorem up {α : Type} (f : Nat → Option α) (hm : ∀ k, LeO (f k) (f (k + 1))) {k n : Nat} {r : α} (h : f k = some r) (hkn : k ≤ n) : f n = some r := by
  obtain ⟨d, rfl⟩ := Nat.exists_eq_add_of_le hkn
  clear hkn
  induction d with
  | zero => exact h
  | succ d ih => exact hm _ _ ih
end Go.Proofs.Ytfjhlcbpogihmaa.Pr
namespace Go.Proofs.Ytfjhlcbpogihmaa.Pr
open Go.RowKit Go.Proofs.YtfjhlcbpogihmaaW.PrintWords Go.Proofs.YtfjhlcbpogihmaaW.PrintLast Go.Proofs.YtfjhlcbpogihmaaW.PrintMore
/-- A sum's bytes. -/
def tailB (v : Int) : ByteArray := strOfNums [(v / 16777216) % 256, (v / 65536) % 256, (v / 256) % 256, v % 256]
theorem tail_f (v : Int) : seal_tail.f v = some (tailB v) := rfl
theorem tailB_size (v : Int) : (tailB v).size = 4 := strOfNums_size _
theorem four_f {v : Int} (h0 : 0 ≤ v) : ferruleref02_four.f v = some (tailB v) := by
  unfold ferruleref02_four.f tailB
  rw [Int.tdiv_eq_ediv_of_nonneg h0, Int.tdiv_eq_ediv_of_nonneg h0, Int.tdiv_eq_ediv_of_nonneg h0, Int.tmod_eq_emod_of_nonneg h0]
  have e1 : (v / 16777216 % 4294967296) % 256 = v / 16777216 % 256 := by omega
  have e2 : (v / 65536 % 4294967296) % 256 = v / 65536 % 256 := by omega
  have e3 : (v / 256 % 4294967296) % 256 = v / 256 % 256 := by omega
  have e4 : (v % 256) % 256 = v % 256 := by omega
  rw [e1, e2, e3, e4]
/-- What stands ahead of the sum. -/
def headB (a : ByteArray) : ByteArray := strOfNums (numL (a.size : Int)) ++ a
theorem headB_size (a : ByteArray) : ((headB a).size : Int) = sizeI (a.size : Int) + a.size := by
  unfold headB
  rw [ByteArray.size_append]
  have := size_num (a.size : Int)
  omega
theorem put_f {a : ByteArray} (h : a.size ≤ 65536) : seal_Put.f a = some (headB a ++ tailB (sumI (headB a)), 0) := by
  have hi : inU64 (a.size : Int) := by unfold inU64; omega
  have hz := sizeI_cases (a.size : Int)
  have hs := size_num (a.size : Int)
  have hh := headB_size a
  have ht := tailB_size (sumI (headB a))
  unfold seal_Put.f
  rw [if_neg (by omega), num_f hi, Option.bind_some]
  try simp only
  rw [if_pos (by omega)]
  show ((seal_Sum.f (headB a)).bind fun t106 => _) = _
  rw [sum_f _ (by omega), Option.bind_some, tail_f, Option.bind_some]
  show (if (headB a).size + _ ≤ 9223372036854775807 then some (headB a ++ _, _) else none) = _
  rw [if_pos (by omega)]
  unfold numE
  rw [if_pos (by omega)]
theorem rput_f {a : ByteArray} (h : a.size ≤ 65536) (k : Nat) (hk : a.size + 30 ≤ k) : ferruleref02_Put.f k a = some (headB a ++ tailB (sumI (headB a)), 0) := by
  have hi : inU64 (a.size : Int) := by unfold inU64; omega
  have hz := sizeI_cases (a.size : Int)
  have hs := size_num (a.size : Int)
  have hh := headB_size a
  have ht := tailB_size (sumI (headB a))
  have hn := up (fun k => ferruleref01_Num.f k (a.size : Int)) (fun k => ferruleref01_Num.mono _ k) (refnum hi) (by omega : 20 ≤ k)
  try simp only at hn
  unfold ferruleref02_Put.f
  rw [if_neg (by omega), hn, Option.bind_some]
  try simp only
  rw [if_pos (by omega)]
  show ((ferruleref02_Sum.f k (headB a)).bind fun t123 => _) = _
  rw [rsum_f _ (by omega) k (by omega), Option.bind_some, four_f (sumI_range _).1, Option.bind_some]
  show (if (headB a).size + _ ≤ 9223372036854775807 then some (headB a ++ _, _) else none) = _
  rw [if_pos (by omega)]
theorem put_big {a : ByteArray} (h : ¬ a.size ≤ 65536) : seal_Put.f a = some ((⟨#[]⟩ : ByteArray), 4) := by
  unfold seal_Put.f
  rw [if_pos (by omega)]
theorem rput_big {a : ByteArray} (h : ¬ a.size ≤ 65536) (k : Nat) : ferruleref02_Put.f k a = some ((⟨#[]⟩ : ByteArray), 4) := by
  unfold ferruleref02_Put.f
  rw [if_pos (by omega)]
end Go.Proofs.Ytfjhlcbpogihmaa.Pr
namespace Go.Proofs.Ytfjhlcbpogihmaa.Pr
open Go.RowKit Go.Proofs.YtfjhlcbpogihmaaW.PrintWords Go.Proofs.YtfjhlcbpogihmaaW.PrintLast Go.Proofs.YtfjhlcbpogihmaaW.PrintMore
set_option linter.unusedVariables false
set_option linter.unusedSimpArgs false
theorem wrap64_in' {x : Int} (h0 : -9223372036854775808 ≤ x) (h1 : x < 9223372036854775808) : wrap64 x = x := by
  simp [wrap64]
  omega
theorem ext_all {a : ByteArray} {n : Nat} (h : a.size ≤ n) : a.extract 0 n = a := by
  ext1
  simp only [ByteArray.data_extract]
  exact Array.extract_eq_self_of_le h
theorem stake (K : Nat) (hd x : ByteArray) (n : Nat) (hT : pack_TakeNum.f K (hd ++ x) = some ((n : Int), x, 0)) (hn : n ≤ 65536) (ha : (hd ++ x).size ≤ 4611686018427387904) :
    seal_Take.f K (hd ++ x) = if x.size < n + 4 then some ((⟨#[]⟩ : ByteArray), (⟨#[]⟩ : ByteArray), 2) else if (tailB (sumI (hd ++ x.extract 0 n))).toList = (x.extract n (n + 4)).toList then some (x.extract 0 n, x.extract (n + 4) x.size, 0) else some ((⟨#[]⟩ : ByteArray), (⟨#[]⟩ : ByteArray), 3) := by
  have hsz : (hd ++ x).size = hd.size + x.size := ByteArray.size_append
  unfold seal_Take.f
  rw [hT]
  simp only [Option.bind_some, if_true]
  rw [if_neg (by omega), wrap_in (x := (n : Int) + 4) (by omega) (by omega), wrap_in (x := (x.size : Int)) (by omega) (by omega)]
  by_cases c : x.size < n + 4
  · rw [if_pos c, if_pos (by omega)]
  · rw [if_neg c, if_neg (by omega)]
    have e1 : ((n : Int) + 4).toNat = n + 4 := by omega
    have e2 : (x.extract (n + 4) x.size).size = x.size - (n + 4) := by rw [ByteArray.size_extract]; omega
    rw [e1, e2]
    have e3 : wrap64 (wrap64 (((hd ++ x).size : Int) - ((x.size - (n + 4) : Nat) : Int)) - 4) = ((hd.size + n : Nat) : Int) := by
      rw [wrap64_in' (x := ((hd ++ x).size : Int) - _) (by omega) (by omega), wrap64_in' (by omega) (by omega)]
      omega
    rw [e3, Int.toNat_natCast, Int.toNat_natCast]
    have e4 : (hd ++ x).extract 0 (hd.size + n) = hd ++ x.extract 0 n := by
      rw [ByteArray.extract_append, ext_all (by omega)]
      rw [show 0 - hd.size = 0 from by omega, show hd.size + n - hd.size = n from by omega]
    rw [e4, if_pos (by omega), if_pos (by omega), if_pos (by omega), if_pos (by omega), if_pos (by omega), if_pos (by omega), sum_f _ (by rw [ByteArray.size_append, ByteArray.size_extract]; omega)]
    simp only [Option.bind_some]
    rw [tail_f]
    simp only [Option.bind_some]
    rw [if_pos (by omega)]
end Go.Proofs.Ytfjhlcbpogihmaa.Pr
namespace Go.Proofs.Ytfjhlcbpogihmaa.Pr
open Go.RowKit Go.Proofs.YtfjhlcbpogihmaaW.PrintWords Go.Proofs.YtfjhlcbpogihmaaW.PrintLast Go.Proofs.YtfjhlcbpogihmaaW.PrintMore
set_option linter.unusedVariables false
set_option linter.unusedSimpArgs false
/-- A sealed text. -/
def sealB (s : ByteArray) : ByteArray := headB s ++ tailB (sumI (headB s))
theorem sealB_size (s : ByteArray) : ((sealB s).size : Int) = sizeI (s.size : Int) + s.size + 4 := by
  unfold sealB
  rw [ByteArray.size_append]
  have := headB_size s
  have := tailB_size (sumI (headB s))
  omega
/-- It is taken, whatever stands behind it. -/
theorem take_sealed (s more : ByteArray) (hs : s.size ≤ 65536) (hm : more.size ≤ 281474976710656) : seal_Take.f 20 (sealB s ++ more) = some (s, more, 0) := by
  have hz := sizeI_cases (s.size : Int)
  have hh := size_num (s.size : Int)
  obtain ⟨t, ht⟩ : ∃ t, tailB (sumI (headB s)) = t := ⟨_, rfl⟩
  have htz : t.size = 4 := by rw [← ht]; exact tailB_size _
  have e : sealB s ++ more = strOfNums (numL (s.size : Int)) ++ (s ++ (t ++ more)) := by
    unfold sealB headB
    rw [ba_assoc, ba_assoc]
    show _ ++ (s ++ (tailB (sumI (headB s)) ++ more)) = _
    rw [ht]
  rw [e, stake 20 _ _ s.size (take_back _ (by omega) (by omega)) hs (by rw [ByteArray.size_append, ByteArray.size_append, ByteArray.size_append]; omega)]
  have e1 : (s ++ (t ++ more)).extract 0 s.size = s := ByteArray.extract_append_eq_left rfl
  have e2 : (s ++ (t ++ more)).extract s.size (s.size + 4) = t := by
    have := ByteArray.extract_append_size_add (a := s) (b := t ++ more) (i := 0) (j := 4)
    rw [Nat.add_zero] at this
    rw [this, ← htz]
    exact ByteArray.extract_append_eq_left rfl
  have e3 : (s ++ (t ++ more)).extract (s.size + 4) (s ++ (t ++ more)).size = more := by
    have hsz : (s ++ (t ++ more)).size = s.size + (4 + more.size) := by rw [ByteArray.size_append, ByteArray.size_append, htz]
    rw [hsz, ByteArray.extract_append_size_add]
    exact ByteArray.extract_append_eq_right htz.symm (by rw [htz])
  rw [if_neg (by rw [ByteArray.size_append, ByteArray.size_append]; omega), e1, e2, e3]
  exact if_pos (show (tailB (sumI (headB s))).toList = t.toList by rw [ht])
/-- No beginning of it is one. -/
theorem take_cut (s : ByteArray) (hs : s.size ≤ 65536) (c : Nat) (hc : c < (sealB s).size) : seal_Take.f 20 ((sealB s).extract 0 c) = some ((⟨#[]⟩ : ByteArray), (⟨#[]⟩ : ByteArray), 2) := by
  have hz := sizeI_cases (s.size : Int)
  have hh := size_num (s.size : Int)
  have hbz := sealB_size s
  obtain ⟨t, ht⟩ : ∃ t, tailB (sumI (headB s)) = t := ⟨_, rfl⟩
  have htz : t.size = 4 := by rw [← ht]; exact tailB_size _
  have e : sealB s = strOfNums (numL (s.size : Int)) ++ (s ++ t) := by
    unfold sealB headB
    rw [ba_assoc]
    show _ ++ (s ++ tailB (sumI (headB s))) = _
    rw [ht]
  obtain ⟨hd, hhd⟩ : ∃ hd, strOfNums (numL (s.size : Int)) = hd := ⟨_, rfl⟩
  have hback : ∀ x, pack_TakeNum.f 20 (hd ++ x) = some ((s.size : Int), x, 0) := fun x => by rw [← hhd]; exact take_back _ (by omega) (by omega)
  rw [hhd] at e hh
  by_cases hcut : c < hd.size
  · rcases take_full (sealB s) with ⟨er, her, hf⟩ | ⟨m, v, hm1, hm8, hm, hf, hi, hv, hL, hshort⟩
    · rw [e, hback] at hf
      injection hf with hf
      injection hf with _ hf
      injection hf with _ hf
      exact absurd hf.symm her
    · have hf2 := hf
      rw [e, hback] at hf2
      injection hf2 with hf2
      injection hf2 with _ hf2
      injection hf2 with hf2 _
      have hsz : (s ++ t).size = ((hd ++ (s ++ t)).extract m (hd ++ (s ++ t)).size).size := by rw [← hf2]
      have hz2 : (hd ++ (s ++ t)).size = hd.size + (s.size + 4) := by rw [ByteArray.size_append, ByteArray.size_append, htz]
      have hz3 : (s ++ t).size = s.size + 4 := by rw [ByteArray.size_append, htz]
      rw [ByteArray.size_extract, hz2, hz3] at hsz
      rw [e, hz2] at hm
      have hT := hshort 20 c (by omega)
      unfold seal_Take.f
      rw [hT]
      simp
  · have e2 : (sealB s).extract 0 c = hd ++ (s ++ t).extract 0 (c - hd.size) := by
      rw [e, ByteArray.extract_append, ext_all (by omega), show 0 - hd.size = 0 from by omega]
    have hz3 : (s ++ t).size = s.size + 4 := by rw [ByteArray.size_append, htz]
    have hz4 : ((s ++ t).extract 0 (c - hd.size)).size ≤ c - hd.size := by rw [ByteArray.size_extract]; omega
    rw [e2, stake 20 hd _ s.size (hback _) hs (by rw [ByteArray.size_append]; omega), if_pos (by omega)]
theorem extract_two (a : ByteArray) (n : Nat) (h : n ≤ a.size) : a.extract 0 n ++ a.extract n a.size = a := by
  ext1
  simp only [ByteArray.data_append, ByteArray.data_extract]
  have h2 : n ≤ a.data.size := h
  show a.data.extract 0 n ++ a.data.extract n a.data.size = a.data
  rw [Array.extract_append_extract]
  simp
  right
  omega
/-- Whatever bytes there are: something is answered, and what is left is shorter. -/
theorem take_total (a : ByteArray) (h : a.size ≤ 4611686018427387904) : ∃ r, seal_Take.f 20 a = some r ∧ (r.2.2 = 0 → r.2.1.size < a.size) := by
  rcases take_full a with ⟨er, her, hf⟩ | ⟨m, v, hm1, hm8, hm, hf, hi, hv, hL, hshort⟩
  · refine ⟨((⟨#[]⟩ : ByteArray), (⟨#[]⟩ : ByteArray), er), ?_, fun h => absurd h her⟩
    unfold seal_Take.f
    rw [hf]
    simp only [Option.bind_some]
    rw [if_neg her]
  · by_cases hb : v > 65536
    · refine ⟨((⟨#[]⟩ : ByteArray), (⟨#[]⟩ : ByteArray), 4), ?_, fun h => absurd h (by decide)⟩
      unfold seal_Take.f
      rw [hf]
      simp only [Option.bind_some, if_true]
      rw [if_pos (by omega)]
    · unfold inU64 at hi
      obtain ⟨n, rfl⟩ : ∃ n : Nat, v = (n : Int) := ⟨v.toNat, by omega⟩
      have e := extract_two a m hm
      have hz : (a.extract m a.size).size = a.size - m := by rw [ByteArray.size_extract]; omega
      have hs := stake 20 (a.extract 0 m) (a.extract m a.size) n (by rw [e]; exact hf) (by omega) (by rw [e]; exact h)
      rw [e] at hs
      rw [hs]
      split
      · exact ⟨_, rfl, fun h => absurd h (by decide)⟩
      · split
        · refine ⟨_, rfl, fun _ => ?_⟩
          rw [ByteArray.size_extract]
          omega
        · exact ⟨_, rfl, fun h => absurd h (by decide)⟩
end Go.Proofs.Ytfjhlcbpogihmaa.Pr
namespace Go.Proofs.Ytfjhlcbpogihmaa.Pr
open Go.RowKit Go.Proofs.YtfjhlcbpogihmaaW.PrintWords Go.Proofs.YtfjhlcbpogihmaaW.PrintLast Go.Proofs.YtfjhlcbpogihmaaW.PrintMore
set_option linter.unusedVariables false
set_option linter.unusedSimpArgs false
/-! The bytes. -/
def nB (v : Int) : ByteArray := strOfNums (numL v)
def nsB : List Int → ByteArray
  | [] => ⟨#[]⟩
  | v :: r => nB v ++ nsB r
def tB (a : ByteArray) : ByteArray := nB (a.size : Int) ++ a
def esB : List S75 → ByteArray
  | [] => ⟨#[]⟩
  | e :: r => (nB e.f0 ++ tB e.f1) ++ esB r
theorem mk_self (s : ByteArray) : (⟨s.data.toList.toArray⟩ : ByteArray) = s := by cases s; rw [Array.toArray_toList]
theorem mk_app (l m : List UInt8) : (⟨(l ++ m).toArray⟩ : ByteArray) = ⟨l.toArray⟩ ++ ⟨m.toArray⟩ := by
  rw [← List.append_toArray]
  apply ByteArray.ext
  rw [ByteArray.data_append]
theorem app_list (a b : ByteArray) : (a ++ b).data.toList = a.data.toList ++ b.data.toList := by rw [ByteArray.data_append, Array.toList_append]
theorem dlen (s : ByteArray) : s.data.toList.length = s.size := Array.length_toList
theorem nB_le (v : Int) : (nB v).size ≤ 8 := numL_le8 v
theorem nsB_le : ∀ l, (nsB l).size ≤ 8 * l.length
  | [] => Nat.le_refl _
  | v :: r => by
    have := nB_le v
    have := nsB_le r
    rw [nsB, ByteArray.size_append, List.length_cons]
    omega
theorem tB_le (a : ByteArray) : (tB a).size ≤ 8 + a.size := by
  have := nB_le (a.size : Int)
  rw [tB, ByteArray.size_append]
  omega
theorem esB_le : ∀ l : List S75, (∀ e ∈ l, e.f0 ≤ 4611686018427387903 ∧ e.f1.size ≤ 4096) → (esB l).size ≤ 4112 * l.length
  | [], _ => Nat.le_refl _
  | e :: r, h => by
    have := nB_le e.f0
    have := tB_le e.f1
    have := (h e (List.mem_cons_self ..)).2
    have := esB_le r (fun x hx => h x (List.mem_cons_of_mem _ hx))
    rw [esB, ByteArray.size_append, ByteArray.size_append, List.length_cons]
    omega
theorem num_ok {v : Int} (h0 : 0 ≤ v) (h1 : v ≤ 4611686018427387903) : pack_Num.f v = some (nB v, 0) := by
  rw [num_f (⟨h0, by omega⟩ : inU64 v)]
  unfold numE
  rw [if_pos (by omega)]
  rfl
theorem rnum_ok {v : Int} (h0 : 0 ≤ v) (h1 : v ≤ 4611686018427387903) : Ev (fun k => ferruleref01_Num.f k v) (nB v, 0) := by
  have h := refnum_ev (⟨h0, by omega⟩ : inU64 v)
  unfold numE at h
  rw [if_pos (by omega)] at h
  exact h
theorem text_ok {a : ByteArray} (h : a.size ≤ 4096) : pack_Text.f a = some (tB a, 0) := by
  have := nB_le (a.size : Int)
  unfold pack_Text.f
  rw [if_neg (by omega), num_ok (by omega) (by omega)]
  simp only [Option.bind_some]
  rw [if_pos (by omega)]
  rfl
theorem rtext_ok {a : ByteArray} (h : a.size ≤ 4096) : Ev (fun k => ferruleref01_Text.f k a) (tB a, 0) := by
  have := nB_le (a.size : Int)
  refine Ev.congr (f := fun k => (ferruleref01_Num.f k (a.size : Int)).bind fun bt405 => (if bt405.1.size + a.size ≤ 9223372036854775807 then (some (bt405.1 ++ a, 0)) else (none))) (fun k => by unfold ferruleref01_Text.f; rw [if_neg (by omega)]) ?_
  refine Ev.bind (rnum_ok (by omega) (by omega)) ?_
  exact Ev.congr (f := fun _ => some (tB a, 0)) (fun k => by dsimp only; rw [if_pos (by omega)]; rfl) (Ev.now _)
theorem numsF_ok : ∀ (l : List Int) (acc : List UInt8), (∀ x ∈ l, 0 ≤ x ∧ x ≤ 4611686018427387903) → acc.length + 8 * l.length ≤ 140737488355328 → numsF l acc = some ((⟨acc.toArray⟩ : ByteArray) ++ nsB l, 0)
  | [], acc, _, _ => by rw [numsF, nsB, ba_nil]
  | v :: r, acc, h, hb => by
    have hv := h v (List.mem_cons_self ..)
    have h8 := nB_le v
    rw [List.length_cons] at hb
    rw [numsF, num_ok hv.1 hv.2]
    simp only [Option.bind_some, if_true]
    rw [if_pos (by omega), numsF_ok r _ (fun x hx => h x (List.mem_cons_of_mem _ hx)) (by rw [List.length_append, dlen]; omega), mk_app, mk_self, nsB, ba_assoc]
theorem rnumsF_ok : ∀ (l : List Int) (acc : List UInt8), (∀ x ∈ l, 0 ≤ x ∧ x ≤ 4611686018427387903) → acc.length + 8 * l.length ≤ 140737488355328 → Ev (fun k => rnumsF k l acc) ((⟨acc.toArray⟩ : ByteArray) ++ nsB l, 0)
  | [], acc, _, _ => by
    refine Ev.congr (f := fun _ => some ((⟨acc.toArray⟩ : ByteArray) ++ nsB [], 0)) (fun k => ?_) (Ev.now _)
    rw [rnumsF, nsB, ba_nil]
  | v :: r, acc, h, hb => by
    have hv := h v (List.mem_cons_self ..)
    have h8 := nB_le v
    rw [List.length_cons] at hb
    refine Ev.congr (f := fun k => (ferruleref01_Num.f k v).bind fun b => if b.2 = 0 then (if acc.length + b.1.size ≤ 140737488355328 then rnumsF k r (acc ++ b.1.data.toList) else none) else some ((⟨#[]⟩ : ByteArray), b.2)) (fun k => by rw [rnumsF]) ?_
    refine Ev.bind (rnum_ok hv.1 hv.2) ?_
    have ih := rnumsF_ok r (acc ++ (nB v).data.toList) (fun x hx => h x (List.mem_cons_of_mem _ hx)) (by rw [List.length_append, dlen]; omega)
    rw [mk_app, mk_self, ba_assoc] at ih
    refine Ev.congr (fun k => ?_) ih
    dsimp only
    rw [if_pos rfl, if_pos (by omega)]
theorem nums_ok (l : List Int) (h : ∀ x ∈ l, 0 ≤ x ∧ x ≤ 4611686018427387903) (hl : l.length ≤ 1000) : pack_Nums.f l = some (nsB ((l.length : Int) :: l), 0) := by
  unfold pack_Nums.f
  rw [if_pos (by omega), numsF_ok _ _ (fun x hx => by rcases List.mem_cons.1 hx with rfl | hx <;> first | exact h x hx | omega) (by simp only [List.length_cons, List.length_nil]; omega)]
  rw [show (⟨([] : List UInt8).toArray⟩ : ByteArray) = ⟨#[]⟩ from rfl, nil_ba]
theorem rnums_ok (l : List Int) (h : ∀ x ∈ l, 0 ≤ x ∧ x ≤ 4611686018427387903) (hl : l.length ≤ 1000) : Ev (fun k => ref_Nums.f k l) (nsB ((l.length : Int) :: l), 0) := by
  have h8 := nB_le (l.length : Int)
  refine Ev.congr (f := fun k => (ferruleref01_Num.f k (l.length : Int)).bind fun b => (if b.1.size ≤ 140737488355328 then rnumsF k l b.1.data.toList else none)) (fun k => by unfold ref_Nums.f; rw [if_pos (by omega)]) ?_
  refine Ev.bind (rnum_ok (by omega) (by omega)) ?_
  have ih := rnumsF_ok l (nB (l.length : Int)).data.toList h (by rw [dlen]; omega)
  rw [mk_self] at ih
  refine Ev.congr (fun k => ?_) ih
  dsimp only
  rw [if_pos (by omega)]
end Go.Proofs.Ytfjhlcbpogihmaa.Pr
