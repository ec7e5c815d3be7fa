/- Several texts of one depth, laid together. Conditions: none. -/
import Derived.Test.YtfjhlcbpogihmaaGNoteBackHandLen
section
namespace Go.Proofs.Ytfjhlcbpogihmaa.Pr
open Go.RowKit Go.Proofs.YtfjhlcbpogihmaaW.PrintWords Go.Proofs.YtfjhlcbpogihmaaW.PrintLast Go.Proofs.YtfjhlcbpogihmaaW.PrintMore
set_option linter.unusedVariables false
set_option linter.unusedSimpArgs false
/-- How many bytes a number has. -/
def sizeI (a0 : Int) : Int := if a0 < 64 then 1 else if a0 < 16384 then 2 else if a0 < 1073741824 then 4 else if a0 < 4611686018427387904 then 8 else 0
def inU64 (a0 : Int) : Prop := 0 ≤ a0 ∧ a0 ≤ 18446744073709551615
instance (a0 : Int) : Decidable (inU64 a0) := inferInstanceAs (Decidable (_ ∧ _))
def pack_Size.f (a0 : Int) : Option Int := if inU64 a0 then some (sizeI a0) else none
set_option maxHeartbeats 4000000 in
set_option maxRecDepth 100000 in
theorem pack_Size.calls0 (a0 : Int) (hi : inU64 a0) (w : World) : Calls Try.prog 53 #[.int .u64 a0] w fun e w' => e = .returned (.int .i64 (sizeI a0)) ∧ w = w' := by
  have HL := Aside0.mk (bits_Len64.calls0 a0 hi.1 hi.2)
  have t6 : bl a0.toNat ≤ 6 ↔ a0 < 64 := by
    rw [bl_lt]
    have := hi.1
    omega
  have t14 : bl a0.toNat ≤ 14 ↔ a0 < 16384 := by
    rw [bl_lt]
    have := hi.1
    omega
  have t30 : bl a0.toNat ≤ 30 ↔ a0 < 1073741824 := by
    rw [bl_lt]
    have := hi.1
    omega
  have t62 : bl a0.toNat ≤ 62 ↔ a0 < 4611686018427387904 := by
    rw [bl_lt]
    have := hi.1
    omega
  obtain ⟨h0, h1⟩ := hi
  generalize bl a0.toNat = z at HL t6 t14 t30 t62
  by_cases c0 : a0 < 64
  · have hs : sizeI a0 = 1 := by unfold sizeI; rw [if_pos c0]
    rw [hs]
    have d6 : decide ((6 : Int) < (z : Int)) = false := decide_eq_false (by omega)
    have d14 : decide ((14 : Int) < (z : Int)) = false := decide_eq_false (by omega)
    have d30 : decide ((30 : Int) < (z : Int)) = false := decide_eq_false (by omega)
    have d62 : decide ((62 : Int) < (z : Int)) = false := decide_eq_false (by omega)
    clear hs t6 t14 t30 t62 c0 h0 h1
    go_enter Try.func53, Try.ntmps53
    go_wp2_with (go_at_call 84; refine (HL.out _).mono ?_; rintro e w' ⟨rfl, rfl⟩)
    go_ret
    exact ⟨rfl, rfl⟩
  · by_cases c1 : a0 < 16384
    · have hs : sizeI a0 = 2 := by unfold sizeI; rw [if_neg c0]; rw [if_pos c1]
      rw [hs]
      have d6 : decide ((6 : Int) < (z : Int)) = true := decide_eq_true (by omega)
      have d14 : decide ((14 : Int) < (z : Int)) = false := decide_eq_false (by omega)
      have d30 : decide ((30 : Int) < (z : Int)) = false := decide_eq_false (by omega)
      have d62 : decide ((62 : Int) < (z : Int)) = false := decide_eq_false (by omega)
      clear hs t6 t14 t30 t62 c0 c1 h0 h1
      go_enter Try.func53, Try.ntmps53
      go_wp2_with (go_at_call 84; refine (HL.out _).mono ?_; rintro e w' ⟨rfl, rfl⟩)
      go_ret
      exact ⟨rfl, rfl⟩
    · by_cases c2 : a0 < 1073741824
      · have hs : sizeI a0 = 4 := by unfold sizeI; rw [if_neg c0]; rw [if_neg c1]; rw [if_pos c2]
        rw [hs]
        have d6 : decide ((6 : Int) < (z : Int)) = true := decide_eq_true (by omega)
        have d14 : decide ((14 : Int) < (z : Int)) = true := decide_eq_true (by omega)
        have d30 : decide ((30 : Int) < (z : Int)) = false := decide_eq_false (by omega)
        have d62 : decide ((62 : Int) < (z : Int)) = false := decide_eq_false (by omega)
        clear hs t6 t14 t30 t62 c0 c1 c2 h0 h1
        go_enter Try.func53, Try.ntmps53
        go_wp2_with (go_at_call 84; refine (HL.out _).mono ?_; rintro e w' ⟨rfl, rfl⟩)
        go_ret
        exact ⟨rfl, rfl⟩
      · by_cases c3 : a0 < 4611686018427387904
        · have hs : sizeI a0 = 8 := by unfold sizeI; rw [if_neg c0]; rw [if_neg c1]; rw [if_neg c2]; rw [if_pos c3]
          rw [hs]
          have d6 : decide ((6 : Int) < (z : Int)) = true := decide_eq_true (by omega)
          have d14 : decide ((14 : Int) < (z : Int)) = true := decide_eq_true (by omega)
          have d30 : decide ((30 : Int) < (z : Int)) = true := decide_eq_true (by omega)
          have d62 : decide ((62 : Int) < (z : Int)) = false := decide_eq_false (by omega)
          clear hs t6 t14 t30 t62 c0 c1 c2 c3 h0 h1
          go_enter Try.func53, Try.ntmps53
          go_wp2_with (go_at_call 84; refine (HL.out _).mono ?_; rintro e w' ⟨rfl, rfl⟩)
          go_ret
          exact ⟨rfl, rfl⟩
        · have hs : sizeI a0 = 0 := by unfold sizeI; rw [if_neg c0]; rw [if_neg c1]; rw [if_neg c2]; rw [if_neg c3]
          rw [hs]
          have d6 : decide ((6 : Int) < (z : Int)) = true := decide_eq_true (by omega)
          have d14 : decide ((14 : Int) < (z : Int)) = true := decide_eq_true (by omega)
          have d30 : decide ((30 : Int) < (z : Int)) = true := decide_eq_true (by omega)
          have d62 : decide ((62 : Int) < (z : Int)) = true := decide_eq_true (by omega)
          clear hs t6 t14 t30 t62 c0 c1 c2 c3 h0 h1
          go_enter Try.func53, Try.ntmps53
          go_wp2_with (go_at_call 84; refine (HL.out _).mono ?_; rintro e w' ⟨rfl, rfl⟩)
          go_ret
          exact ⟨rfl, rfl⟩
theorem pack_Size.calls (a0 : Int) (r : Int) (w : World) (h : pack_Size.f a0 = some r) : Calls Try.prog 53 #[.int .u64 a0] w fun e w' => e = .returned (.int .i64 r) ∧ Drawn0 w w' := by
  unfold pack_Size.f at h
  by_cases hi : inU64 a0
  · rw [if_pos hi] at h
    obtain rfl := Option.some.inj h
    exact (pack_Size.calls0 a0 hi w).mono fun _ _ ⟨he, hw⟩ => ⟨he, hw ▸ Drawn0.refl _⟩
  · rw [if_neg hi] at h
    cases h
set_option maxRecDepth 100000 in
theorem tz_1 (w : World) : Calls Try.prog 86 #[.int .u8 1] w fun e w' => e = .returned (.int .i64 0) ∧ w = w' := by
  go_enter Try.func86, Try.ntmps86
  go_wp2
  go_ret
  exact ⟨ret_i64 (by decide +kernel), rfl⟩
set_option maxRecDepth 100000 in
theorem tz_2 (w : World) : Calls Try.prog 86 #[.int .u8 2] w fun e w' => e = .returned (.int .i64 1) ∧ w = w' := by
  go_enter Try.func86, Try.ntmps86
  go_wp2
  go_ret
  exact ⟨ret_i64 (by decide +kernel), rfl⟩
set_option maxRecDepth 100000 in
theorem tz_4 (w : World) : Calls Try.prog 86 #[.int .u8 4] w fun e w' => e = .returned (.int .i64 2) ∧ w = w' := by
  go_enter Try.func86, Try.ntmps86
  go_wp2
  go_ret
  exact ⟨ret_i64 (by decide +kernel), rfl⟩
set_option maxRecDepth 100000 in
theorem tz_8 (w : World) : Calls Try.prog 86 #[.int .u8 8] w fun e w' => e = .returned (.int .i64 3) ∧ w = w' := by
  go_enter Try.func86, Try.ntmps86
  go_wp2
  go_ret
  exact ⟨ret_i64 (by decide +kernel), rfl⟩
end Go.Proofs.Ytfjhlcbpogihmaa.Pr
end
