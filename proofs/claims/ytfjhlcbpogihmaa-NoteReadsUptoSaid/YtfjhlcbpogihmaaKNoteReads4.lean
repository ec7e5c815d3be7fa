/- Several texts of one depth, laid together. Conditions: none. -/
import Derived.Test.YtfjhlcbpogihmaaKNoteReads1
import Derived.Test.YtfjhlcbpogihmaaGNoteReadsPr6
import Derived.Test.YtfjhlcbpogihmaaGNoteReadsPr53
import Derived.Test.YtfjhlcbpogihmaaGNoteReadsHandRead
import Derived.Test.YtfjhlcbpogihmaaKNoteReads2
import Derived.Test.YtfjhlcbpogihmaaKNoteReads3
section
namespace Go.Proofs.Ytfjhlcbpogihmaa.Pr
open Go.RowKit Go.Proofs.YtfjhlcbpogihmaaW.PrintWords Go.Proofs.YtfjhlcbpogihmaaW.PrintLast Go.Proofs.YtfjhlcbpogihmaaW.PrintMore
attribute [local go_sem] max2_int min2_int max_two min_two max_three min_three max_four min_four
set_option linter.unusedVariables false
set_option linter.unusedSimpArgs false
/-! ### ferrulelaw04_NoteReads: function 11 -/
def ferrulelaw04_NoteReads.f (k : Nat) (a0 : ByteArray) : Option (Bool) := (ferrulelaw04_shown.f).bind fun t525 => ((note_Read.f k a0).bind fun bt526 => ((ferruleref04_Read.f k a0).bind fun bt530 => ((ferruleref04_Notes.f k bt526.1 bt530.1).bind fun t534 => (if t525 = true then (if t534 = true then (some (bt526.2 == bt530.2)) else (none)) else (none)))))
set_option maxHeartbeats 8000000 in
set_option maxRecDepth 100000 in
theorem ferrulelaw04_NoteReads.calls (k : Nat) (a0 : ByteArray) (r : Bool) (w : World) (h : ferrulelaw04_NoteReads.f k a0 = some r) :
    Calls Try.prog 11 #[.string a0] w fun e w' => e = .returned (.bool r) ∧ Below w.heap.size w w' := by
  have HB := Aside0.mk (Below.refl w.heap.size w)
  have H : ((ferrulelaw04_shown.f).bind fun t525 => ((note_Read.f k a0).bind fun bt526 => ((ferruleref04_Read.f k a0).bind fun bt530 => ((ferruleref04_Notes.f k bt526.1 bt530.1).bind fun t534 => (if t525 = true then (if t534 = true then (some (bt526.2 == bt530.2)) else (none)) else (none)))))) = some r := h
  clear h
  replace H := Option.bind_eq_some_iff.mp H
  obtain ⟨t525, A20, H⟩ := H
  replace H : ((note_Read.f k a0).bind fun bt526 => ((ferruleref04_Read.f k a0).bind fun bt530 => ((ferruleref04_Notes.f k bt526.1 bt530.1).bind fun t534 => (if t525 = true then (if t534 = true then (some (bt526.2 == bt530.2)) else (none)) else (none))))) = some r := H
  have A2 := Aside0.mk A20
  clear A20
  replace H := Option.bind_eq_some_iff.mp H
  obtain ⟨⟨t526, t527⟩, A30, H⟩ := H
  replace H : ((ferruleref04_Read.f k a0).bind fun bt530 => ((ferruleref04_Notes.f k t526 bt530.1).bind fun t534 => (if t525 = true then (if t534 = true then (some (t527 == bt530.2)) else (none)) else (none)))) = some r := H
  have A3 := Aside0.mk A30
  clear A30
  replace H := Option.bind_eq_some_iff.mp H
  obtain ⟨⟨t530, t531⟩, A40, H⟩ := H
  replace H : ((ferruleref04_Notes.f k t526 t530).bind fun t534 => (if t525 = true then (if t534 = true then (some (t527 == t531)) else (none)) else (none))) = some r := H
  have A4 := Aside0.mk A40
  clear A40
  replace H := Option.bind_eq_some_iff.mp H
  obtain ⟨t534, A50, H⟩ := H
  replace H : (if t525 = true then (if t534 = true then (some (t527 == t531)) else (none)) else (none)) = some r := H
  have A5 := Aside0.mk A50
  clear A50
  by_cases c6 : t525 = true
  · subst c6
    have H1 : (if t534 = true then (some (t527 == t531)) else (none)) = some r := by rw [if_pos rfl] at H; exact H
    clear H
    have H := H1
    clear H1
    by_cases c7 : t534 = true
    · subst c7
      have H1 : (some (t527 == t531)) = some r := by rw [if_pos rfl] at H; exact H
      clear H
      have H := H1
      clear H1
      obtain rfl := Option.some.inj H
      go_enter Try.func11, Try.ntmps11
      go_wp2_with (first | ((with_reducible refine gate_callee (f := 14) rfl ?_); refine goesL_ (some 9) rfl rfl Try.func14 (by kernel_rfl) rfl #[] rfl (by (try simp only [List.map_toArray, List.map_cons, List.map_nil]); first | done | rfl | (simp only [List.length_drop, List.length_take]; rfl)) ?_; (with_reducible refine (ferrulelaw04_shown.calls  true _ A2.out).mono ?_); rintro e w8 ⟨rfl, hb⟩; refine ⟨_, rfl, ?_⟩; have n0_ := Aside0.mk (below_step (by repeat (first | (with_reducible first | exact HB.out | apply below_alloc | apply pw_below_drewN | apply below_drew1) | exact HB.out | exact Below.refl _ _)) hb); clear HB; have HB := n0_; clear n0_; (try clear hb); (try clear hb2); (try clear hk); (try clear hi)) | ((with_reducible refine gate_callee (f := 23) rfl ?_); refine goesL_ (some 12) rfl rfl Try.func23 (by kernel_rfl) rfl #[.string a0] rfl (by (try simp only [List.map_toArray, List.map_cons, List.map_nil]); first | done | rfl | (simp only [List.length_drop, List.length_take]; rfl)) ?_; (with_reducible refine (note_Read.calls k a0 t526 t527 _ A3.out).mono ?_); rintro e w9 ⟨v528, rfl, ho0, hb⟩; refine ⟨_, rfl, ?_⟩; have n0_ := Aside0.mk (Kd.R_lower ho0 (below_size (by repeat (first | (with_reducible first | exact HB.out | apply below_alloc | apply pw_below_drewN | apply below_drew1) | exact HB.out)))); have n1_ := Aside0.mk (below_step (by repeat (first | (with_reducible first | exact HB.out | apply below_alloc | apply pw_below_drewN | apply below_drew1) | exact HB.out | exact Below.refl _ _)) hb); clear HB; have HO529 := n0_; have HB := n1_; clear n0_ n1_; (try clear hb); (try clear hb2); (try clear hk); (try clear hi); (try clear ho0)) | ((with_reducible refine gate_callee (f := 38) rfl ?_); refine goesL_ (some 17) rfl rfl Try.func38 (by kernel_rfl) rfl #[.string a0] rfl (by (try simp only [List.map_toArray, List.map_cons, List.map_nil]); first | done | rfl | (simp only [List.length_drop, List.length_take]; rfl)) ?_; (with_reducible refine (ferruleref04_Read.calls k a0 t530 t531 _ A4.out).mono ?_); rintro e w10 ⟨v532, rfl, ho0, hb⟩; refine ⟨_, rfl, ?_⟩; have n0_ := Aside0.mk (Kd.R_elder' (by (with_reducible repeat (first | apply Kd.R_alloc | apply Kd.R_drewN | apply Kd.R_drew)); exact HO529.out) (Kd.R_base ho0) hb); have n1_ := Aside0.mk (Kd.R_lower (Kd.R_new' ho0 (Kd.R_lt (by (with_reducible repeat (first | apply Kd.R_alloc | apply Kd.R_drewN | apply Kd.R_drew)); exact HO529.out))) (below_size (by repeat (first | (with_reducible first | exact HB.out | apply below_alloc | apply pw_below_drewN | apply below_drew1) | exact HB.out)))); have n2_ := Aside0.mk (below_step (by repeat (first | (with_reducible first | exact HB.out | apply below_alloc | apply pw_below_drewN | apply below_drew1) | exact HB.out | exact Below.refl _ _)) hb); clear HO529; clear HB; have HO529 := n0_; have HO533 := n1_; have HB := n2_; clear n0_ n1_ n2_; (try clear hb); (try clear hb2); (try clear hk); (try clear hi); (try clear ho0); obtain ⟨Ao11, co11, eo11⟩ := Kd.R_slice HO529.out; subst eo11; obtain ⟨Ao12, co12, eo12⟩ := Kd.R_slice HO533.out; subst eo12) | ((with_reducible refine gate_callee (f := 24) rfl ?_); refine goesL_ (some 22) rfl rfl Try.func24 (by kernel_rfl) rfl #[.slice Ao11 t526.length co11, .slice Ao12 t530.length co12] rfl (by (try simp only [List.map_toArray, List.map_cons, List.map_nil]); first | done | rfl | (simp only [List.length_drop, List.length_take]; rfl)) ?_; (with_reducible refine (ferruleref04_Notes.calls k _ _ t526 _ _ t530 true _ ?side1 ?side2 ?side3 ?side4 A5.out).mono ?_); (case side1 => repeat (first | exact (Kd.R_reads' HO529.out).2.2 | (with_reducible refine Kd.C_alloc ?_ _) | (with_reducible refine Kd.C_drewN ?_ _) | (with_reducible refine Kd.C_drew ?_))); (case side2 => exact (Kd.R_reads' HO529.out).2.1); (case side3 => repeat (first | exact (Kd.R_reads' HO533.out).2.2 | (with_reducible refine Kd.C_alloc ?_ _) | (with_reducible refine Kd.C_drewN ?_ _) | (with_reducible refine Kd.C_drew ?_))); (case side4 => exact (Kd.R_reads' HO533.out).2.1); rintro e w' ⟨rfl, ⟨nd, rfl⟩⟩; refine ⟨_, rfl, ?_⟩))
      go_ret
      exact ⟨by first | rfl | (simp [errW_none, errW_some] <;> rfl) | (simp [*, errW_none, errW_some] <;> rfl), by repeat (first | (with_reducible first | exact HB.out | apply below_alloc | apply pw_below_drewN | apply below_drew1) | exact HB.out)⟩
    · replace c7 := Bool.eq_false_iff.mpr c7
      subst c7
      have H1 : (none) = some r := by rw [if_neg (show ¬ (false = true) by decide)] at H; exact H
      clear H
      have H := H1
      clear H1
      exact absurd H (by simp)
  · replace c6 := Bool.eq_false_iff.mpr c6
    subst c6
    have H1 : (none) = some r := by rw [if_neg (show ¬ (false = true) by decide)] at H; exact H
    clear H
    have H := H1
    clear H1
    exact absurd H (by simp)
end Go.Proofs.Ytfjhlcbpogihmaa.Pr
end
section
namespace Go.Proofs.Ytfjhlcbpogihmaa.Pr
open Go.RowKit Go.Proofs.YtfjhlcbpogihmaaW.PrintWords Go.Proofs.YtfjhlcbpogihmaaW.PrintLast Go.Proofs.YtfjhlcbpogihmaaW.PrintMore
def ferrulelaw04_NoteReads.Pure : Prop := ∀ (a0 : ByteArray), (a0.size ≤ 1048576) → ∃ k, ferrulelaw04_NoteReads.f k a0 = some true
end Go.Proofs.Ytfjhlcbpogihmaa.Pr
end
section
namespace Go.Proofs.Ytfjhlcbpogihmaa.Pr
open Go.RowKit Go.Proofs.YtfjhlcbpogihmaaW.PrintWords Go.Proofs.YtfjhlcbpogihmaaW.PrintLast Go.Proofs.YtfjhlcbpogihmaaW.PrintMore
set_option linter.unusedVariables false
set_option linter.unusedSimpArgs false
theorem take_tot (a : ByteArray) (h : a.size ≤ 140737488351232) (k : Nat) (hk : a.size + 30 ≤ k) : ∃ r, seal_Take.f 20 a = some r ∧ ferruleref02_Take.f k a = some r ∧ (r.2.2 = 0 → r.1.size ≤ 65536 ∧ a.size = (sealB r.1).size + r.2.1.size) := by
  obtain ⟨r0, g1, g2⟩ := seal_same a h
  have g3 := up (fun k => ferruleref02_Take.f k a) (fun k => ferruleref02_Take.mono _ k) g2 hk
  obtain ⟨r1, g4, _⟩ := take_total a (by omega)
  have g5 := up (fun k => seal_Take.f k a) (fun k => seal_Take.mono _ k) g4 (by omega : 20 ≤ a.size + 30)
  try simp only at g3 g5
  rw [g1] at g5
  obtain rfl := Option.some.inj g5
  refine ⟨r0, g4, g3, ?_⟩
  rcases take_full a with ⟨er, her, hf⟩ | ⟨m, v, hm1, hm8, hm, hf, hi, hv, hL, hshort⟩
  · intro h0
    unfold seal_Take.f at g4
    rw [hf] at g4
    simp only [Option.bind_some] at g4
    rw [if_neg her] at g4
    obtain rfl := Option.some.inj g4
    exact absurd h0 her
  · intro h0
    by_cases hb : v > 65536
    · unfold seal_Take.f at g4
      rw [hf] at g4
      simp only [Option.bind_some, if_true] at g4
      rw [if_pos (by omega)] at g4
      obtain rfl := Option.some.inj g4
      exact absurd h0 (by decide)
    · unfold inU64 at hi
      obtain ⟨n, rfl⟩ : ∃ n : Nat, v = (n : Int) := ⟨v.toNat, by omega⟩
      have e := extract_two a m hm
      have hz : (a.extract m a.size).size = a.size - m := by rw [ByteArray.size_extract]; omega
      have hs := stake 20 (a.extract 0 m) (a.extract m a.size) n (by rw [e]; exact hf) (by omega) (by rw [e]; omega)
      rw [e, g4] at hs
      have hms : (sizeI (n : Int)) = (m : Int) := by
        have z := congrArg ByteArray.size hL
        rw [strOfNums_size, ByteArray.size_extract] at z
        have := numL_length (v := (n : Int))
        omega
      split at hs
      · obtain rfl := Option.some.inj hs
        exact absurd h0 (by decide)
      · rename_i hlt
        split at hs
        · obtain rfl := Option.some.inj hs
          have hx : ((a.extract m a.size).extract 0 n).size = n := by rw [ByteArray.size_extract]; omega
          have hy : ((a.extract m a.size).extract (n + 4) (a.extract m a.size).size).size = (a.extract m a.size).size - (n + 4) := by rw [ByteArray.size_extract]; omega
          have hsb := sealB_size ((a.extract m a.size).extract 0 n)
          rw [hx] at hsb
          refine ⟨by dsimp only; omega, ?_⟩
          dsimp only
          omega
        · obtain rfl := Option.some.inj hs
          exact absurd h0 (by decide)
theorem sealB_pos (s : ByteArray) (hs : s.size ≤ 65536) : 5 ≤ (sealB s).size := by
  have := sealB_size s
  have := sizeI_cases (s.size : Int)
  omega
def wS (s : ByteArray) : Int := wrap64 (wrap64 (sizeI (IntKind.u64.wrap (s.size : Int)) + (s.size : Int)) + 4)
theorem wS_small (s : ByteArray) (h : s.size ≤ 65536) : wS s = ((sealB s).size : Int) := by
  have hz := sealB_size s
  have hc := sizeI_cases (s.size : Int)
  have e : IntKind.u64.wrap (s.size : Int) = (s.size : Int) := by simp [IntKind.wrap, IntKind.signed, IntKind.bits]; omega
  unfold wS
  rw [e, wrap64_in' (x := sizeI (s.size : Int) + _) (by omega) (by omega), wrap64_in' (by omega) (by omega)]
  omega
theorem ones_same (s : ByteArray) : ∃ r, Ev (fun k => note_take.f k s) r ∧ Ev (fun k => ferruleref04_one.f k s) r := by
  have hnil := toNil5 (a := s)
  by_cases hs : (s.size : Int) = 0
  · have hs' : s.toList = ([] : List UInt8) := by rw [decide_eq_true hs] at hnil; exact beq_iff_eq.1 hnil
    refine ⟨(0, 0, 0, 0, ⟨#[]⟩, false), ?_, ?_⟩
    · exact Ev.congr (f := fun _ => some (0, 0, 0, 0, ⟨#[]⟩, false)) (fun k => by unfold note_take.f; rw [if_pos hs']) (Ev.now _)
    · exact Ev.congr (f := fun _ => some (0, 0, 0, 0, ⟨#[]⟩, false)) (fun k => by unfold ferruleref04_one.f; rw [if_pos hs]) (Ev.now _)
  · have hs' : ¬ s.toList = ([] : List UInt8) := fun c => by rw [c, decide_eq_false hs] at hnil; cases hnil
    obtain ⟨q, q1, q2, q3⟩ := few_take (s.extract 1 s.size) 3 (by omega) (by omega)
    have h1 : 1 ≤ (s.size : Int) := by omega
    by_cases he : q.2.2 = 0
    · by_cases hl : (q.1.length : Int) = 3
      · refine ⟨(wrap64 (bt s 0), rd q.1 0, rd q.1 1, rd q.1 2, q.2.1, nmayB (wrap64 (bt s 0)) (rd q.1 0) (rd q.1 1) (rd q.1 2) q.2.1), ?_, ?_⟩
        · refine Ev.congr (f := fun k => (pack_TakeNums.f k (s.extract 1 s.size) 3).bind fun bt193 => (if bt193.2.2 = 0 then (if (bt193.1.length : Int) = 3 then (if 0 < (s.size : Int) then (if 0 < (bt193.1.length : Int) then (if 1 < (bt193.1.length : Int) then (if 2 < (bt193.1.length : Int) then ((note_may.f k (wrap64 (bt s 0)) (rd bt193.1 0) (rd bt193.1 1) (rd bt193.1 2) bt193.2.1).bind fun t202 => (some (wrap64 (bt s 0), rd bt193.1 0, rd bt193.1 1, rd bt193.1 2, bt193.2.1, t202))) else (none)) else (none)) else (none)) else (none)) else (some (0, 0, 0, 0, (⟨#[]⟩ : ByteArray), false))) else (some (0, 0, 0, 0, (⟨#[]⟩ : ByteArray), false)))) (fun k => by unfold note_take.f; rw [if_neg hs', if_pos h1]) ?_
          refine Ev.bind q1 ?_
          simp only [if_pos he, if_pos hl, if_pos (show 0 < (s.size : Int) by omega), if_pos (show 0 < (q.1.length : Int) by omega), if_pos (show 1 < (q.1.length : Int) by omega), if_pos (show 2 < (q.1.length : Int) by omega), note_may.f, Option.bind_some]
          exact Ev.now _
        · refine Ev.congr (f := fun k => (ferruleref01_TakeNums.f k (s.extract 1 s.size) 3).bind fun bt193 => (if bt193.2.2 = 0 then (if (bt193.1.length : Int) = 3 then (if 0 < (s.size : Int) then (if 0 < (bt193.1.length : Int) then (if 1 < (bt193.1.length : Int) then (if 2 < (bt193.1.length : Int) then ((ferruleref04_NoteMay.f k (wrap64 (bt s 0)) (rd bt193.1 0) (rd bt193.1 1) (rd bt193.1 2) bt193.2.1).bind fun t202 => (some (wrap64 (bt s 0), rd bt193.1 0, rd bt193.1 1, rd bt193.1 2, bt193.2.1, t202))) else (none)) else (none)) else (none)) else (none)) else (some (0, 0, 0, 0, (⟨#[]⟩ : ByteArray), false))) else (some (0, 0, 0, 0, (⟨#[]⟩ : ByteArray), false)))) (fun k => by unfold ferruleref04_one.f; rw [if_neg hs, if_pos h1]) ?_
          refine Ev.bind q2 ?_
          simp only [if_pos he, if_pos hl, if_pos (show 0 < (s.size : Int) by omega), if_pos (show 0 < (q.1.length : Int) by omega), if_pos (show 1 < (q.1.length : Int) by omega), if_pos (show 2 < (q.1.length : Int) by omega)]
          refine Ev.bind (g := fun k => ferruleref04_NoteMay.f k (wrap64 (bt s 0)) (rd q.1 0) (rd q.1 1) (rd q.1 2) q.2.1) (a := nmayB (wrap64 (bt s 0)) (rd q.1 0) (rd q.1 1) (rd q.1 2) q.2.1) ⟨2, fun k hk => by obtain ⟨j, rfl⟩ : ∃ j, k = j + 2 := ⟨k - 2, by omega⟩; exact rnmay_f (wrap64 (bt s 0)) (rd q.1 0) (rd q.1 1) (rd q.1 2) q.2.1 j⟩ ?_
          exact Ev.now _
      · refine ⟨(0, 0, 0, 0, ⟨#[]⟩, false), ?_, ?_⟩
        · refine Ev.congr (f := fun k => (pack_TakeNums.f k (s.extract 1 s.size) 3).bind fun bt193 => (if bt193.2.2 = 0 then (if (bt193.1.length : Int) = 3 then (if 0 < (s.size : Int) then (if 0 < (bt193.1.length : Int) then (if 1 < (bt193.1.length : Int) then (if 2 < (bt193.1.length : Int) then ((note_may.f k (wrap64 (bt s 0)) (rd bt193.1 0) (rd bt193.1 1) (rd bt193.1 2) bt193.2.1).bind fun t202 => (some (wrap64 (bt s 0), rd bt193.1 0, rd bt193.1 1, rd bt193.1 2, bt193.2.1, t202))) else (none)) else (none)) else (none)) else (none)) else (some (0, 0, 0, 0, (⟨#[]⟩ : ByteArray), false))) else (some (0, 0, 0, 0, (⟨#[]⟩ : ByteArray), false)))) (fun k => by unfold note_take.f; rw [if_neg hs', if_pos h1]) ?_
          refine Ev.bind q1 ?_
          simp only [if_pos he, if_neg hl]
          exact Ev.now _
        · refine Ev.congr (f := fun k => (ferruleref01_TakeNums.f k (s.extract 1 s.size) 3).bind fun bt193 => (if bt193.2.2 = 0 then (if (bt193.1.length : Int) = 3 then (if 0 < (s.size : Int) then (if 0 < (bt193.1.length : Int) then (if 1 < (bt193.1.length : Int) then (if 2 < (bt193.1.length : Int) then ((ferruleref04_NoteMay.f k (wrap64 (bt s 0)) (rd bt193.1 0) (rd bt193.1 1) (rd bt193.1 2) bt193.2.1).bind fun t202 => (some (wrap64 (bt s 0), rd bt193.1 0, rd bt193.1 1, rd bt193.1 2, bt193.2.1, t202))) else (none)) else (none)) else (none)) else (none)) else (some (0, 0, 0, 0, (⟨#[]⟩ : ByteArray), false))) else (some (0, 0, 0, 0, (⟨#[]⟩ : ByteArray), false)))) (fun k => by unfold ferruleref04_one.f; rw [if_neg hs, if_pos h1]) ?_
          refine Ev.bind q2 ?_
          simp only [if_pos he, if_neg hl]
          exact Ev.now _
    · refine ⟨(0, 0, 0, 0, ⟨#[]⟩, false), ?_, ?_⟩
      · refine Ev.congr (f := fun k => (pack_TakeNums.f k (s.extract 1 s.size) 3).bind fun bt193 => (if bt193.2.2 = 0 then (if (bt193.1.length : Int) = 3 then (if 0 < (s.size : Int) then (if 0 < (bt193.1.length : Int) then (if 1 < (bt193.1.length : Int) then (if 2 < (bt193.1.length : Int) then ((note_may.f k (wrap64 (bt s 0)) (rd bt193.1 0) (rd bt193.1 1) (rd bt193.1 2) bt193.2.1).bind fun t202 => (some (wrap64 (bt s 0), rd bt193.1 0, rd bt193.1 1, rd bt193.1 2, bt193.2.1, t202))) else (none)) else (none)) else (none)) else (none)) else (some (0, 0, 0, 0, (⟨#[]⟩ : ByteArray), false))) else (some (0, 0, 0, 0, (⟨#[]⟩ : ByteArray), false)))) (fun k => by unfold note_take.f; rw [if_neg hs', if_pos h1]) ?_
        refine Ev.bind q1 ?_
        simp only [if_neg he]
        exact Ev.now _
      · refine Ev.congr (f := fun k => (ferruleref01_TakeNums.f k (s.extract 1 s.size) 3).bind fun bt193 => (if bt193.2.2 = 0 then (if (bt193.1.length : Int) = 3 then (if 0 < (s.size : Int) then (if 0 < (bt193.1.length : Int) then (if 1 < (bt193.1.length : Int) then (if 2 < (bt193.1.length : Int) then ((ferruleref04_NoteMay.f k (wrap64 (bt s 0)) (rd bt193.1 0) (rd bt193.1 1) (rd bt193.1 2) bt193.2.1).bind fun t202 => (some (wrap64 (bt s 0), rd bt193.1 0, rd bt193.1 1, rd bt193.1 2, bt193.2.1, t202))) else (none)) else (none)) else (none)) else (none)) else (some (0, 0, 0, 0, (⟨#[]⟩ : ByteArray), false))) else (some (0, 0, 0, 0, (⟨#[]⟩ : ByteArray), false)))) (fun k => by unfold ferruleref04_one.f; rw [if_neg hs, if_pos h1]) ?_
        refine Ev.bind q2 ?_
        simp only [if_neg he]
        exact Ev.now _
theorem all_total : ∀ (m : Nat) (a : ByteArray), a.size < m → a.size ≤ 140737488351232 → ∃ L T, allF 20 m a = some L ∧ Ev (fun k => takesF k L) T ∧ T.length ≤ a.size
  | 0, a, h, _ => absurd h (by omega)
  | m + 1, a, h, ha => by
    obtain ⟨r, t1, _, t3⟩ := take_tot a ha (a.size + 30) (Nat.le_refl _)
    unfold allF
    rw [t1]
    simp only [Option.bind_some]
    by_cases he : r.2.2 = 0
    · obtain ⟨hs, hz⟩ := t3 he
      have := sealB_pos r.1 hs
      obtain ⟨L, T, l1, l2, l3⟩ := all_total m r.2.1 (by omega) (by omega)
      obtain ⟨t, o1, _⟩ := ones_same r.1
      refine ⟨r.1 :: L, (r.1, t) :: T, ?_, ?_, by rw [List.length_cons]; omega⟩
      · rw [if_pos he, if_pos (by omega), l1]
        rfl
      · refine Ev.congr (f := fun k => (note_take.f k r.1).bind fun t => (takesF k L).bind fun R => some ((r.1, t) :: R)) (fun k => by rw [takesF]; cases note_take.f k r.1 <;> simp only [Option.bind_none, Option.bind_some]; cases takesF k L <;> rfl) ?_
        exact Ev.bind o1 (Ev.bind l2 (Ev.now _))
    · exact ⟨[], [], by rw [if_neg he], Ev.congr (f := fun _ => some []) (fun k => by rw [takesF]) (Ev.now _), Nat.zero_le _⟩
theorem wi6 {x : Int} (h0 : -9223372036854775808 ≤ x) (h1 : x < 9223372036854775808) : wrap64 x = x := by
  simp [wrap64]
  omega
theorem read_ref (x0 : ByteArray) (hx : x0.size ≤ 1048576) : ∀ (m : Nat) (rest : ByteArray) (acc : List TK), rest.size < m → rest.size ≤ x0.size → (∀ t ∈ acc, TK.ok t = true) → psum acc = (x0.size : Int) - rest.size → acc.length + rest.size ≤ 1048576 →
    ∃ L T, allF 20 m rest = some L ∧ Ev (fun k => takesF k L) T ∧ T.length ≤ rest.size ∧ Ev (fun k => ferruleref04_Read.l0 k x0 (acc.map TK.note) rest) (((acc ++ T).takeWhile TK.ok).map TK.note, psum ((acc ++ T).takeWhile TK.ok))
  | 0, rest, acc, h, _, _, _, _ => absurd h (by omega)
  | m + 1, rest, acc, h, hr, hok, hp, hlen => by
    obtain ⟨r, t1, _, t3⟩ := take_tot rest (by omega) (rest.size + 30) (Nat.le_refl _)
    have t2 : Ev (fun k => ferruleref02_Take.f k rest) r := ⟨rest.size + 30, fun k hk => by obtain ⟨r', u1, u2, _⟩ := take_tot rest (by omega) k hk; rw [t1] at u1; obtain rfl := Option.some.inj u1; exact u2⟩
    have hwp : wrap64 ((x0.size : Int) - (rest.size : Int)) = psum acc := by rw [wi6 (by omega) (by omega), hp]
    have hstay : (acc ++ []).takeWhile TK.ok = acc := by rw [List.append_nil]; exact takeWhile_all _ _ hok
    by_cases he : r.2.2 = 0
    · obtain ⟨hs, hz⟩ := t3 he
      have hpos := sealB_pos r.1 hs
      obtain ⟨t, o1, o2⟩ := ones_same r.1
      have e1 : ∀ k, ferruleref04_Read.l0 (k + 1) x0 (acc.map TK.note) rest = ((ferruleref02_Take.f k rest).bind fun bt512 => (if bt512.2.2 = 0 then ((ferruleref04_one.f k bt512.1).bind fun bt515 => (if bt515.2.2.2.2.2 = true then (if (acc.map TK.note).length < 2932031007402 then (ferruleref04_Read.l0 k x0 (acc.map TK.note ++ [(⟨bt515.1, bt515.2.1, bt515.2.2.1, bt515.2.2.2.1, bt515.2.2.2.2.1⟩ : S39)]) bt512.2.1) else (none)) else (some (acc.map TK.note, wrap64 ((x0.size : Int) - (rest.size : Int)))))) else (some (acc.map TK.note, wrap64 ((x0.size : Int) - (rest.size : Int)))))) := fun k => by rw [ferruleref04_Read.l0, if_pos (by omega)]
      have hall : allF 20 (m + 1) rest = (allF 20 m r.2.1).map (r.1 :: ·) := by
        rw [allF, t1]
        simp only [Option.bind_some]
        rw [if_pos he, if_pos (by omega)]
      have htk : ∀ L T, Ev (fun k => takesF k L) T → Ev (fun k => takesF k (r.1 :: L)) ((r.1, t) :: T) := fun L T l2 => by
        refine Ev.congr (f := fun k => (note_take.f k r.1).bind fun t => (takesF k L).bind fun R => some ((r.1, t) :: R)) (fun k => by rw [takesF]; cases note_take.f k r.1 <;> simp only [Option.bind_none, Option.bind_some]; cases takesF k L <;> rfl) ?_
        exact Ev.bind o1 (Ev.bind l2 (Ev.now _))
      by_cases ht : t.2.2.2.2.2 = true
      · obtain ⟨L, T, l1, l2, l3, l4⟩ := read_ref x0 hx m r.2.1 (acc ++ [(r.1, t)]) (by omega) (by omega) (fun u hu => by
          rcases List.mem_append.1 hu with hu | hu
          · exact hok u hu
          · rw [List.mem_singleton.1 hu]; exact ht) (by
          rw [psum_snoc]
          show wrap64 (psum acc + wS r.1) = _
          rw [wS_small _ hs, hp, wi6 (by omega) (by omega)]
          omega) (by rw [List.length_append, List.length_singleton]; omega)
        refine ⟨r.1 :: L, (r.1, t) :: T, by rw [hall, l1]; rfl, htk L T l2, by rw [List.length_cons]; omega, Ev.step e1 (Ev.bind t2 ?_)⟩
        simp only [if_pos he]
        refine Ev.bind o2 ?_
        simp only [if_pos ht, List.length_map, if_pos (show acc.length < 2932031007402 by omega)]
        rw [List.map_append, List.append_assoc] at l4
        exact l4
      · obtain ⟨L, T, l1, l2, l3⟩ := all_total m r.2.1 (by omega) (by omega)
        refine ⟨r.1 :: L, (r.1, t) :: T, by rw [hall, l1]; rfl, htk L T l2, by rw [List.length_cons]; omega, Ev.step e1 (Ev.bind t2 ?_)⟩
        simp only [if_pos he]
        refine Ev.bind o2 ?_
        rw [takeWhile_stop _ _ _ _ hok (show TK.ok (r.1, t) = false from by unfold TK.ok; simpa using ht)]
        simp only [if_neg ht, hwp]
        exact Ev.now _
    · refine ⟨[], [], by rw [allF, t1]; simp only [Option.bind_some]; rw [if_neg he], Ev.congr (f := fun _ => some []) (fun k => by rw [takesF]) (Ev.now _), Nat.zero_le _, ?_⟩
      rw [hstay]
      by_cases hz : (rest.size : Int) > 0
      · refine Ev.step (f := fun k => (ferruleref02_Take.f k rest).bind fun bt512 => (if bt512.2.2 = 0 then ((ferruleref04_one.f k bt512.1).bind fun bt515 => (if bt515.2.2.2.2.2 = true then (if (acc.map TK.note).length < 2932031007402 then (ferruleref04_Read.l0 k x0 (acc.map TK.note ++ [(⟨bt515.1, bt515.2.1, bt515.2.2.1, bt515.2.2.2.1, bt515.2.2.2.2.1⟩ : S39)]) bt512.2.1) else (none)) else (some (acc.map TK.note, wrap64 ((x0.size : Int) - (rest.size : Int)))))) else (some (acc.map TK.note, wrap64 ((x0.size : Int) - (rest.size : Int)))))) (fun k => by rw [ferruleref04_Read.l0, if_pos hz]) (Ev.bind t2 ?_)
        simp only [if_neg he, hwp]
        exact Ev.now _
      · exact Ev.step (f := fun _ => some (acc.map TK.note, wrap64 ((x0.size : Int) - (rest.size : Int)))) (fun k => by rw [ferruleref04_Read.l0, if_neg hz]) (by simp only [hwp]; exact Ev.now _)
/-- What note.Read and the document's Read tell of bytes: the same. -/
theorem read_same (b : ByteArray) (hb : b.size ≤ 1048576) : ∃ r, Ev (fun k => note_Read.f k b) r ∧ Ev (fun k => ferruleref04_Read.f k b) r ∧ r.1.length ≤ 1048576 := by
  obtain ⟨L, T, l1, l2, l3, l4⟩ := read_ref b hb (b.size + 1) b [] (by omega) (Nat.le_refl _) (fun _ h => absurd h List.not_mem_nil) (by show (0 : Int) = _; omega) (by simpa using hb)
  rw [List.nil_append] at l4
  refine ⟨((T.takeWhile TK.ok).map TK.note, psum (T.takeWhile TK.ok)), ?_, l4, ?_⟩
  · refine Ev.bind (Ev.of (fun k => allF_mono k _ _) l1) (Ev.bind l2 ?_)
    rw [if_pos (by omega)]
    exact Ev.now _
  · have := (List.takeWhile_prefix (p := TK.ok) (l := T)).length_le
    rw [List.length_map]
    omega
end Go.Proofs.Ytfjhlcbpogihmaa.Pr
end
section
namespace Go.Proofs.Ytfjhlcbpogihmaa.Pure
open Go.RowKit Go.Proofs.Ytfjhlcbpogihmaa.Pr Go.Proofs.YtfjhlcbpogihmaaW.PrintWords Go.Proofs.YtfjhlcbpogihmaaW.PrintLast Go.Proofs.YtfjhlcbpogihmaaW.PrintMore
theorem NoteReads : ferrulelaw04_NoteReads.Pure := by
  intro a ha
  obtain ⟨r, r1, r2, r3⟩ := read_same a ha
  refine Ev.rounds ?_
  unfold ferrulelaw04_NoteReads.f
  rw [shown_true]
  simp only [Option.bind_some]
  refine Ev.bind r1 (Ev.bind r2 ?_)
  refine Ev.bind (g := fun k => ferruleref04_Notes.f k r.1 r.1) (a := true) ⟨r.1.length + 1, fun k hk => notes_self r.1 (by omega) k (by omega)⟩ ?_
  simp only [if_true, beq_self_eq_true]
  exact Ev.now _
end Go.Proofs.Ytfjhlcbpogihmaa.Pure
end
