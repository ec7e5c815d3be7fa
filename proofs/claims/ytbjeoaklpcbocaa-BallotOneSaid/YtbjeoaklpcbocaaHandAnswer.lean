/- ballot.Answer: what it computes, and that it does. Conditions: none. -/
import Derived.Test.YtbjeoaklpcbocaaPr0
import Derived.Test.YtbjeoaklpcbocaaHandNewer
import Derived.Test.YtbjeoaklpcbocaaHnd
namespace Go.Proofs.Ytbjeoaklpcbocaa.Pr
open Go.RowKit Go.Proofs.YtbjeoaklpcbocaaW.PrintWords Go.Proofs.YtbjeoaklpcbocaaW.PrintLast Go.Proofs.YtbjeoaklpcbocaaW.PrintMore
set_option linter.unusedVariables false
set_option linter.unusedSimpArgs false
open Go.Proofs.Ytbjeoaklpcbocaa.Hnd
attribute [local go_sem] setCell_drewN_ alloc_drewN_
def answerT (nw : Bool) (a0_0 : Int) (a0_1 : Int) (a0_2 : Int) (a0_3 : Int) (a0_4 : Bool) (a1_0 : Int) (a1_1 : Int) (a1_2 : Int) (a1_3 : Int) (a1_4 : Bool) : Option (Int × Int × Int × Int × Bool × Bool) := if a1_4 = true then (if a0_0 < a1_0 then (if a0_4 = true then (some (a0_0, a0_1, a0_2, a0_3, a0_4, false)) else (if nw = true then (some (a0_0, a0_1, a0_2, a0_3, a0_4, true)) else (some (a0_0, a0_1, a0_2, a0_3, a0_4, false)))) else (some (a0_0, a0_1, a0_2, a0_3, a0_4, false))) else (if a1_0 < a0_0 then (some (a0_0, a0_1, a0_2, a0_3, a0_4, false)) else (if a0_0 < a1_0 then (if a0_4 = true then (some (a0_0, a0_1, a0_2, a0_3, a0_4, false)) else (if a1_1 = 0 then (some (a1_0, 0, a0_2, a0_3, a0_4, false)) else (if nw = true then (some (a1_0, a1_1, a0_2, a0_3, a0_4, true)) else (some (a1_0, 0, a0_2, a0_3, a0_4, false))))) else (if a0_1 = 0 then (if a1_1 = 0 then (some (a0_0, a0_1, a0_2, a0_3, a0_4, false)) else (if nw = true then (some (a0_0, a1_1, a0_2, a0_3, a0_4, true)) else (some (a0_0, a0_1, a0_2, a0_3, a0_4, false)))) else (if a0_1 = a1_1 then (if a1_1 = 0 then (some (a0_0, a0_1, a0_2, a0_3, a0_4, false)) else (if nw = true then (some (a0_0, a1_1, a0_2, a0_3, a0_4, true)) else (some (a0_0, a0_1, a0_2, a0_3, a0_4, false)))) else (some (a0_0, a0_1, a0_2, a0_3, a0_4, false))))))
def ballot_Answer.f (a0_0 : Int) (a0_1 : Int) (a0_2 : Int) (a0_3 : Int) (a0_4 : Bool) (a1_0 : Int) (a1_1 : Int) (a1_2 : Int) (a1_3 : Int) (a1_4 : Bool) : Option (Int × Int × Int × Int × Bool × Bool) := answerT (newerB a1_2 a1_3 a0_2 a0_3) a0_0 a0_1 a0_2 a0_3 a0_4 a1_0 a1_1 a1_2 a1_3 a1_4
set_option maxHeartbeats 8000000 in
set_option maxRecDepth 100000 in
theorem ballot_Answer.calls (a0_0 : Int) (a0_1 : Int) (a0_2 : Int) (a0_3 : Int) (a0_4 : Bool) (a1_0 : Int) (a1_1 : Int) (a1_2 : Int) (a1_3 : Int) (a1_4 : Bool) (r1 : Int) (r2 : Int) (r3 : Int) (r4 : Int) (r5 : Bool) (r6 : Bool) (w : World) (h : ballot_Answer.f a0_0 a0_1 a0_2 a0_3 a0_4 a1_0 a1_1 a1_2 a1_3 a1_4 = some (r1, r2, r3, r4, r5, r6)) :
    Calls Try.prog 9 #[.agg #[.int .u64 a0_0, .int .u64 a0_1, .int .u64 a0_2, .int .u64 a0_3, .bool a0_4], .agg #[.int .u64 a1_0, .int .u64 a1_1, .int .u64 a1_2, .int .u64 a1_3, .bool a1_4]] w fun e w' => e = .returned (.tuple #[.agg #[.int .u64 r1, .int .u64 r2, .int .u64 r3, .int .u64 r4, .bool r5], .bool r6]) ∧ Below w.heap.size w w' := by
  have HN := Aside0.mk (rlog_Newer.calls0 a1_2 a1_3 a0_2 a0_3 (newerB a1_2 a1_3 a0_2 a0_3) · rfl)
  unfold ballot_Answer.f at h
  generalize newerB a1_2 a1_3 a0_2 a0_3 = nw at h HN
  unfold answerT at h
  cases a1_4 with
  | true =>
    rw [if_pos rfl] at h
    by_cases c1 : a0_0 < a1_0
    · rw [if_pos c1] at h
      have c1b := decide_eq_true c1
      clear c1
      cases a0_4 with
      | true =>
        rw [if_pos rfl] at h
        simp only [Option.some.injEq, Prod.mk.injEq] at h
        obtain ⟨rfl, rfl, rfl, rfl, rfl, rfl⟩ := h
        go_enter Try.func9, Try.ntmps9
        go_wp2_with (go_at_call 17; refine (HN.out _).mono ?_; rintro e w' ⟨rfl, ⟨nd, rfl⟩⟩)
        refine bodyPost_ret (v := .tuple #[.agg #[.int .u64 a0_0, .int .u64 a0_1, .int .u64 a0_2, .int .u64 a0_3, .bool true], .bool false]) (by simp [results, Try.results9, go_sem]) rfl ⟨rfl, ?_⟩
        repeat (first | exact Below.refl _ _ | refine Below.setCell ?_ (by simp) _ | refine Below.alloc ?_ (by simp <;> omega) _ | refine pw_below_drewN ?_ _ | refine below_drew1 ?_)
      | false =>
        rw [if_neg (by decide)] at h
        cases nw with
        | true =>
          rw [if_pos rfl] at h
          simp only [Option.some.injEq, Prod.mk.injEq] at h
          obtain ⟨rfl, rfl, rfl, rfl, rfl, rfl⟩ := h
          go_enter Try.func9, Try.ntmps9
          go_wp2_with (go_at_call 17; refine (HN.out _).mono ?_; rintro e w' ⟨rfl, ⟨nd, rfl⟩⟩)
          refine bodyPost_ret (v := .tuple #[.agg #[.int .u64 a0_0, .int .u64 a0_1, .int .u64 a0_2, .int .u64 a0_3, .bool false], .bool true]) (by simp [results, Try.results9, go_sem]) rfl ⟨rfl, ?_⟩
          repeat (first | exact Below.refl _ _ | refine Below.setCell ?_ (by simp) _ | refine Below.alloc ?_ (by simp <;> omega) _ | refine pw_below_drewN ?_ _ | refine below_drew1 ?_)
        | false =>
          rw [if_neg (by decide)] at h
          simp only [Option.some.injEq, Prod.mk.injEq] at h
          obtain ⟨rfl, rfl, rfl, rfl, rfl, rfl⟩ := h
          go_enter Try.func9, Try.ntmps9
          go_wp2_with (go_at_call 17; refine (HN.out _).mono ?_; rintro e w' ⟨rfl, ⟨nd, rfl⟩⟩)
          refine bodyPost_ret (v := .tuple #[.agg #[.int .u64 a0_0, .int .u64 a0_1, .int .u64 a0_2, .int .u64 a0_3, .bool false], .bool false]) (by simp [results, Try.results9, go_sem]) rfl ⟨rfl, ?_⟩
          repeat (first | exact Below.refl _ _ | refine Below.setCell ?_ (by simp) _ | refine Below.alloc ?_ (by simp <;> omega) _ | refine pw_below_drewN ?_ _ | refine below_drew1 ?_)
    · rw [if_neg c1] at h
      have c1b := decide_eq_false c1
      clear c1
      simp only [Option.some.injEq, Prod.mk.injEq] at h
      obtain ⟨rfl, rfl, rfl, rfl, rfl, rfl⟩ := h
      go_enter Try.func9, Try.ntmps9
      go_wp2_with (go_at_call 17; refine (HN.out _).mono ?_; rintro e w' ⟨rfl, ⟨nd, rfl⟩⟩)
      refine bodyPost_ret (v := .tuple #[.agg #[.int .u64 a0_0, .int .u64 a0_1, .int .u64 a0_2, .int .u64 a0_3, .bool a0_4], .bool false]) (by simp [results, Try.results9, go_sem]) rfl ⟨rfl, ?_⟩
      repeat (first | exact Below.refl _ _ | refine Below.setCell ?_ (by simp) _ | refine Below.alloc ?_ (by simp <;> omega) _ | refine pw_below_drewN ?_ _ | refine below_drew1 ?_)
  | false =>
    rw [if_neg (by decide)] at h
    by_cases c2 : a1_0 < a0_0
    · rw [if_pos c2] at h
      have c2b := decide_eq_true c2
      clear c2
      simp only [Option.some.injEq, Prod.mk.injEq] at h
      obtain ⟨rfl, rfl, rfl, rfl, rfl, rfl⟩ := h
      go_enter Try.func9, Try.ntmps9
      go_wp2_with (go_at_call 17; refine (HN.out _).mono ?_; rintro e w' ⟨rfl, ⟨nd, rfl⟩⟩)
      refine bodyPost_ret (v := .tuple #[.agg #[.int .u64 a0_0, .int .u64 a0_1, .int .u64 a0_2, .int .u64 a0_3, .bool a0_4], .bool false]) (by simp [results, Try.results9, go_sem]) rfl ⟨rfl, ?_⟩
      repeat (first | exact Below.refl _ _ | refine Below.setCell ?_ (by simp) _ | refine Below.alloc ?_ (by simp <;> omega) _ | refine pw_below_drewN ?_ _ | refine below_drew1 ?_)
    · rw [if_neg c2] at h
      have c2b := decide_eq_false c2
      clear c2
      by_cases c3 : a0_0 < a1_0
      · rw [if_pos c3] at h
        have c3b := decide_eq_true c3
        clear c3
        cases a0_4 with
        | true =>
          rw [if_pos rfl] at h
          simp only [Option.some.injEq, Prod.mk.injEq] at h
          obtain ⟨rfl, rfl, rfl, rfl, rfl, rfl⟩ := h
          go_enter Try.func9, Try.ntmps9
          go_wp2_with (go_at_call 17; refine (HN.out _).mono ?_; rintro e w' ⟨rfl, ⟨nd, rfl⟩⟩)
          refine bodyPost_ret (v := .tuple #[.agg #[.int .u64 a0_0, .int .u64 a0_1, .int .u64 a0_2, .int .u64 a0_3, .bool true], .bool false]) (by simp [results, Try.results9, go_sem]) rfl ⟨rfl, ?_⟩
          repeat (first | exact Below.refl _ _ | refine Below.setCell ?_ (by simp) _ | refine Below.alloc ?_ (by simp <;> omega) _ | refine pw_below_drewN ?_ _ | refine below_drew1 ?_)
        | false =>
          rw [if_neg (by decide)] at h
          by_cases c4 : a1_1 = 0
          · rw [if_pos c4] at h
            have c4b : (a1_1 == 0) = true := beq_iff_eq.mpr c4
            have c4c : (a1_1 != 0) = false := bne_eq_false_iff_eq.mpr c4
            clear c4
            simp only [Option.some.injEq, Prod.mk.injEq] at h
            obtain ⟨rfl, rfl, rfl, rfl, rfl, rfl⟩ := h
            go_enter Try.func9, Try.ntmps9
            go_wp2_with (go_at_call 17; refine (HN.out _).mono ?_; rintro e w' ⟨rfl, ⟨nd, rfl⟩⟩)
            refine bodyPost_ret (v := .tuple #[.agg #[.int .u64 a1_0, .int .u64 0, .int .u64 a0_2, .int .u64 a0_3, .bool false], .bool false]) (by simp [results, Try.results9, go_sem]) rfl ⟨rfl, ?_⟩
            repeat (first | exact Below.refl _ _ | refine Below.setCell ?_ (by simp) _ | refine Below.alloc ?_ (by simp <;> omega) _ | refine pw_below_drewN ?_ _ | refine below_drew1 ?_)
          · rw [if_neg c4] at h
            have c4b : (a1_1 == 0) = false := beq_eq_false_iff_ne.mpr c4
            have c4c : (a1_1 != 0) = true := bne_iff_ne.mpr c4
            clear c4
            cases nw with
            | true =>
              rw [if_pos rfl] at h
              simp only [Option.some.injEq, Prod.mk.injEq] at h
              obtain ⟨rfl, rfl, rfl, rfl, rfl, rfl⟩ := h
              go_enter Try.func9, Try.ntmps9
              go_wp2_with (go_at_call 17; refine (HN.out _).mono ?_; rintro e w' ⟨rfl, ⟨nd, rfl⟩⟩)
              refine bodyPost_ret (v := .tuple #[.agg #[.int .u64 a1_0, .int .u64 a1_1, .int .u64 a0_2, .int .u64 a0_3, .bool false], .bool true]) (by simp [results, Try.results9, go_sem]) rfl ⟨rfl, ?_⟩
              repeat (first | exact Below.refl _ _ | refine Below.setCell ?_ (by simp) _ | refine Below.alloc ?_ (by simp <;> omega) _ | refine pw_below_drewN ?_ _ | refine below_drew1 ?_)
            | false =>
              rw [if_neg (by decide)] at h
              simp only [Option.some.injEq, Prod.mk.injEq] at h
              obtain ⟨rfl, rfl, rfl, rfl, rfl, rfl⟩ := h
              go_enter Try.func9, Try.ntmps9
              go_wp2_with (go_at_call 17; refine (HN.out _).mono ?_; rintro e w' ⟨rfl, ⟨nd, rfl⟩⟩)
              refine bodyPost_ret (v := .tuple #[.agg #[.int .u64 a1_0, .int .u64 0, .int .u64 a0_2, .int .u64 a0_3, .bool false], .bool false]) (by simp [results, Try.results9, go_sem]) rfl ⟨rfl, ?_⟩
              repeat (first | exact Below.refl _ _ | refine Below.setCell ?_ (by simp) _ | refine Below.alloc ?_ (by simp <;> omega) _ | refine pw_below_drewN ?_ _ | refine below_drew1 ?_)
      · rw [if_neg c3] at h
        have c3b := decide_eq_false c3
        clear c3
        by_cases c5 : a0_1 = 0
        · rw [if_pos c5] at h
          have c5b : (a0_1 == 0) = true := beq_iff_eq.mpr c5
          have c5c : (a0_1 != 0) = false := bne_eq_false_iff_eq.mpr c5
          clear c5
          by_cases c6 : a1_1 = 0
          · rw [if_pos c6] at h
            have c6b : (a1_1 == 0) = true := beq_iff_eq.mpr c6
            have c6c : (a1_1 != 0) = false := bne_eq_false_iff_eq.mpr c6
            clear c6
            simp only [Option.some.injEq, Prod.mk.injEq] at h
            obtain ⟨rfl, rfl, rfl, rfl, rfl, rfl⟩ := h
            go_enter Try.func9, Try.ntmps9
            go_wp2_with (go_at_call 17; refine (HN.out _).mono ?_; rintro e w' ⟨rfl, ⟨nd, rfl⟩⟩)
            refine bodyPost_ret (v := .tuple #[.agg #[.int .u64 a0_0, .int .u64 a0_1, .int .u64 a0_2, .int .u64 a0_3, .bool a0_4], .bool false]) (by simp [results, Try.results9, go_sem]) rfl ⟨rfl, ?_⟩
            repeat (first | exact Below.refl _ _ | refine Below.setCell ?_ (by simp) _ | refine Below.alloc ?_ (by simp <;> omega) _ | refine pw_below_drewN ?_ _ | refine below_drew1 ?_)
          · rw [if_neg c6] at h
            have c6b : (a1_1 == 0) = false := beq_eq_false_iff_ne.mpr c6
            have c6c : (a1_1 != 0) = true := bne_iff_ne.mpr c6
            clear c6
            cases nw with
            | true =>
              rw [if_pos rfl] at h
              simp only [Option.some.injEq, Prod.mk.injEq] at h
              obtain ⟨rfl, rfl, rfl, rfl, rfl, rfl⟩ := h
              go_enter Try.func9, Try.ntmps9
              go_wp2_with (go_at_call 17; refine (HN.out _).mono ?_; rintro e w' ⟨rfl, ⟨nd, rfl⟩⟩)
              refine bodyPost_ret (v := .tuple #[.agg #[.int .u64 a0_0, .int .u64 a1_1, .int .u64 a0_2, .int .u64 a0_3, .bool a0_4], .bool true]) (by simp [results, Try.results9, go_sem]) rfl ⟨rfl, ?_⟩
              repeat (first | exact Below.refl _ _ | refine Below.setCell ?_ (by simp) _ | refine Below.alloc ?_ (by simp <;> omega) _ | refine pw_below_drewN ?_ _ | refine below_drew1 ?_)
            | false =>
              rw [if_neg (by decide)] at h
              simp only [Option.some.injEq, Prod.mk.injEq] at h
              obtain ⟨rfl, rfl, rfl, rfl, rfl, rfl⟩ := h
              go_enter Try.func9, Try.ntmps9
              go_wp2_with (go_at_call 17; refine (HN.out _).mono ?_; rintro e w' ⟨rfl, ⟨nd, rfl⟩⟩)
              refine bodyPost_ret (v := .tuple #[.agg #[.int .u64 a0_0, .int .u64 a0_1, .int .u64 a0_2, .int .u64 a0_3, .bool a0_4], .bool false]) (by simp [results, Try.results9, go_sem]) rfl ⟨rfl, ?_⟩
              repeat (first | exact Below.refl _ _ | refine Below.setCell ?_ (by simp) _ | refine Below.alloc ?_ (by simp <;> omega) _ | refine pw_below_drewN ?_ _ | refine below_drew1 ?_)
        · rw [if_neg c5] at h
          have c5b : (a0_1 == 0) = false := beq_eq_false_iff_ne.mpr c5
          have c5c : (a0_1 != 0) = true := bne_iff_ne.mpr c5
          clear c5
          by_cases c7 : a0_1 = a1_1
          · rw [if_pos c7] at h
            have c7b : (a0_1 == a1_1) = true := beq_iff_eq.mpr c7
            have c7c : (a0_1 != a1_1) = false := bne_eq_false_iff_eq.mpr c7
            clear c7
            by_cases c8 : a1_1 = 0
            · rw [if_pos c8] at h
              have c8b : (a1_1 == 0) = true := beq_iff_eq.mpr c8
              have c8c : (a1_1 != 0) = false := bne_eq_false_iff_eq.mpr c8
              clear c8
              simp only [Option.some.injEq, Prod.mk.injEq] at h
              obtain ⟨rfl, rfl, rfl, rfl, rfl, rfl⟩ := h
              go_enter Try.func9, Try.ntmps9
              go_wp2_with (go_at_call 17; refine (HN.out _).mono ?_; rintro e w' ⟨rfl, ⟨nd, rfl⟩⟩)
              refine bodyPost_ret (v := .tuple #[.agg #[.int .u64 a0_0, .int .u64 a0_1, .int .u64 a0_2, .int .u64 a0_3, .bool a0_4], .bool false]) (by simp [results, Try.results9, go_sem]) rfl ⟨rfl, ?_⟩
              repeat (first | exact Below.refl _ _ | refine Below.setCell ?_ (by simp) _ | refine Below.alloc ?_ (by simp <;> omega) _ | refine pw_below_drewN ?_ _ | refine below_drew1 ?_)
            · rw [if_neg c8] at h
              have c8b : (a1_1 == 0) = false := beq_eq_false_iff_ne.mpr c8
              have c8c : (a1_1 != 0) = true := bne_iff_ne.mpr c8
              clear c8
              cases nw with
              | true =>
                rw [if_pos rfl] at h
                simp only [Option.some.injEq, Prod.mk.injEq] at h
                obtain ⟨rfl, rfl, rfl, rfl, rfl, rfl⟩ := h
                go_enter Try.func9, Try.ntmps9
                go_wp2_with (go_at_call 17; refine (HN.out _).mono ?_; rintro e w' ⟨rfl, ⟨nd, rfl⟩⟩)
                refine bodyPost_ret (v := .tuple #[.agg #[.int .u64 a0_0, .int .u64 a1_1, .int .u64 a0_2, .int .u64 a0_3, .bool a0_4], .bool true]) (by simp [results, Try.results9, go_sem]) rfl ⟨rfl, ?_⟩
                repeat (first | exact Below.refl _ _ | refine Below.setCell ?_ (by simp) _ | refine Below.alloc ?_ (by simp <;> omega) _ | refine pw_below_drewN ?_ _ | refine below_drew1 ?_)
              | false =>
                rw [if_neg (by decide)] at h
                simp only [Option.some.injEq, Prod.mk.injEq] at h
                obtain ⟨rfl, rfl, rfl, rfl, rfl, rfl⟩ := h
                go_enter Try.func9, Try.ntmps9
                go_wp2_with (go_at_call 17; refine (HN.out _).mono ?_; rintro e w' ⟨rfl, ⟨nd, rfl⟩⟩)
                refine bodyPost_ret (v := .tuple #[.agg #[.int .u64 a0_0, .int .u64 a0_1, .int .u64 a0_2, .int .u64 a0_3, .bool a0_4], .bool false]) (by simp [results, Try.results9, go_sem]) rfl ⟨rfl, ?_⟩
                repeat (first | exact Below.refl _ _ | refine Below.setCell ?_ (by simp) _ | refine Below.alloc ?_ (by simp <;> omega) _ | refine pw_below_drewN ?_ _ | refine below_drew1 ?_)
          · rw [if_neg c7] at h
            have c7b : (a0_1 == a1_1) = false := beq_eq_false_iff_ne.mpr c7
            have c7c : (a0_1 != a1_1) = true := bne_iff_ne.mpr c7
            clear c7
            simp only [Option.some.injEq, Prod.mk.injEq] at h
            obtain ⟨rfl, rfl, rfl, rfl, rfl, rfl⟩ := h
            go_enter Try.func9, Try.ntmps9
            go_wp2_with (go_at_call 17; refine (HN.out _).mono ?_; rintro e w' ⟨rfl, ⟨nd, rfl⟩⟩)
            refine bodyPost_ret (v := .tuple #[.agg #[.int .u64 a0_0, .int .u64 a0_1, .int .u64 a0_2, .int .u64 a0_3, .bool a0_4], .bool false]) (by simp [results, Try.results9, go_sem]) rfl ⟨rfl, ?_⟩
            repeat (first | exact Below.refl _ _ | refine Below.setCell ?_ (by simp) _ | refine Below.alloc ?_ (by simp <;> omega) _ | refine pw_below_drewN ?_ _ | refine below_drew1 ?_)
end Go.Proofs.Ytbjeoaklpcbocaa.Pr
