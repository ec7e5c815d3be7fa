/- tape.Crash and ferruleref03.Crash: what they compute, and that they do. Conditions: none. -/
import Derived.Test.YtofdgkcaimifkaaPr0
import Derived.Test.YtofdgkcaimifkaaHnd
namespace Go.Proofs.Ytofdgkcaimifkaa.Pr
open Go.RowKit Go.Proofs.YtofdgkcaimifkaaW.PrintWords Go.Proofs.YtofdgkcaimifkaaW.PrintLast Go.Proofs.YtofdgkcaimifkaaW.PrintMore
open Go.Proofs.Ytofdgkcaimifkaa.Hnd
attribute [local go_sem] setCell_drewN_ alloc_drewN_
attribute [local go_sem] max2_int min2_int max_two min_two
set_option linter.unusedVariables false
set_option linter.unusedSimpArgs false
def crashI (a0_0 a0_1 : ByteArray) (a1 : Int) : Option (ByteArray × ByteArray × Int × Bool) := if a0_0.size + a0_1.size ≤ 4611686018427387904 then some (a0_0 ++ a0_1.extract 0 (mn (mx a1 0) (a0_1.size : Int)).toNat, (⟨#[]⟩ : ByteArray), -1, false) else none
def tape_Crash.f (a0_0 a0_1 : ByteArray) (a0_2 : Int) (a0_3 : Bool) (a1 : Int) : Option (ByteArray × ByteArray × Int × Bool) := crashI a0_0 a0_1 a1
set_option maxHeartbeats 4000000 in
set_option maxRecDepth 100000 in
theorem tape_Crash.calls (a0_0 a0_1 : ByteArray) (a0_2 : Int) (a0_3 : Bool) (a1 : Int) (r1 r2 : ByteArray) (r3 : Int) (r4 : Bool) (w : World) (h : tape_Crash.f a0_0 a0_1 a0_2 a0_3 a1 = some (r1, r2, r3, r4)) :
    Calls Try.prog 12 #[.agg #[.string a0_0, .string a0_1, .int .i64 a0_2, .bool a0_3], .int .i64 a1] w fun e w' => e = .returned (.agg #[.string r1, .string r2, .int .i64 r3, .bool r4]) ∧ Below w.heap.size w w' := by
  unfold tape_Crash.f crashI at h
  by_cases hs : a0_0.size + a0_1.size ≤ 4611686018427387904
  rotate_left
  · rw [if_neg hs] at h; cases h
  rw [if_pos hs] at h
  have s0 : a0_0.size ≤ 4611686018427387904 := by omega
  have s1 : a0_1.size ≤ 4611686018427387904 := by omega
  simp only [Option.some.injEq, Prod.mk.injEq] at h
  obtain ⟨rfl, rfl, rfl, rfl⟩ := h
  obtain ⟨m, hm⟩ : ∃ m : Nat, (mn (mx a1 0) (a0_1.size : Int)).toNat = m := ⟨_, rfl⟩
  rw [hm]
  unfold mn mx at hm
  have key : ∀ k : Nat, k ≤ a0_1.size → (a0_1.extract 0 k).size ≤ 4611686018427387904 := fun k hk => by rw [ByteArray.size_extract]; omega
  by_cases c1 : a1 < 0
  · have hm0 : m = 0 := by rw [if_pos c1] at hm; split at hm <;> omega
    clear hm
    have c1b := decide_eq_true c1
    have hk := key 0 (by omega)
    have c2 : ¬ (a0_1.size : Int) < 0 := by omega
    have c2b := decide_eq_false c2
    obtain rfl := hm0
    go_enter Try.func12, Try.ntmps12
    go_wp2
    go_region
    all_goals
      go_wp2
      refine bodyPost_ret (v := .agg #[.string (a0_0), .string ⟨#[]⟩, .int .i64 (-1), .bool false]) (by simp [results, Try.results12, go_sem]) rfl ⟨by first | rfl | simp, ?_⟩
      repeat (first | exact Below.refl _ _ | refine Below.setCell ?_ (by simp) _ | refine Below.alloc ?_ (by simp <;> omega) _ | refine pw_below_drewN ?_ _ | refine below_drew ?_)
  have c1b := decide_eq_false c1
  by_cases c2 : (a0_1.size : Int) < a1
  · have hm0 : m = a0_1.size := by rw [if_neg c1, if_pos c2] at hm; omega
    clear hm
    have c2b := decide_eq_true c2
    have hk := key a0_1.size (by omega)
    obtain rfl := hm0
    go_enter Try.func12, Try.ntmps12
    go_wp2
    go_region
    all_goals
      go_wp2
      refine bodyPost_ret (v := .agg #[.string (a0_0 ++ a0_1), .string ⟨#[]⟩, .int .i64 (-1), .bool false]) (by simp [results, Try.results12, go_sem]) rfl ⟨by first | rfl | simp, ?_⟩
      repeat (first | exact Below.refl _ _ | refine Below.setCell ?_ (by simp) _ | refine Below.alloc ?_ (by simp <;> omega) _ | refine pw_below_drewN ?_ _ | refine below_drew ?_)
  · have hm0 : a1 = (m : Int) := by rw [if_neg c1, if_neg c2] at hm; omega
    clear hm
    have hm1 : m ≤ a0_1.size := by omega
    subst hm0
    have c2b := decide_eq_false c2
    have hk := key m (by omega)
    go_enter Try.func12, Try.ntmps12
    go_wp2
    go_region
    all_goals
      go_wp2
      refine bodyPost_ret (v := .agg #[.string (a0_0 ++ a0_1.extract 0 m), .string ⟨#[]⟩, .int .i64 (-1), .bool false]) (by simp [results, Try.results12, go_sem]) rfl ⟨by first | rfl | simp, ?_⟩
      repeat (first | exact Below.refl _ _ | refine Below.setCell ?_ (by simp) _ | refine Below.alloc ?_ (by simp <;> omega) _ | refine pw_below_drewN ?_ _ | refine below_drew ?_)
def ferruleref03_Crash.f (a0_0 a0_1 : ByteArray) (a0_2 : Int) (a0_3 : Bool) (a1 : Int) : Option (ByteArray × ByteArray × Int × Bool) := crashI a0_0 a0_1 a1
set_option maxHeartbeats 4000000 in
set_option maxRecDepth 100000 in
theorem ferruleref03_Crash.calls (a0_0 a0_1 : ByteArray) (a0_2 : Int) (a0_3 : Bool) (a1 : Int) (r1 r2 : ByteArray) (r3 : Int) (r4 : Bool) (w : World) (h : ferruleref03_Crash.f a0_0 a0_1 a0_2 a0_3 a1 = some (r1, r2, r3, r4)) :
    Calls Try.prog 13 #[.agg #[.string a0_0, .string a0_1, .int .i64 a0_2, .bool a0_3], .int .i64 a1] w fun e w' => e = .returned (.agg #[.string r1, .string r2, .int .i64 r3, .bool r4]) ∧ Below w.heap.size w w' := by
  unfold ferruleref03_Crash.f crashI at h
  by_cases hs : a0_0.size + a0_1.size ≤ 4611686018427387904
  rotate_left
  · rw [if_neg hs] at h; cases h
  rw [if_pos hs] at h
  have s0 : a0_0.size ≤ 4611686018427387904 := by omega
  have s1 : a0_1.size ≤ 4611686018427387904 := by omega
  simp only [Option.some.injEq, Prod.mk.injEq] at h
  obtain ⟨rfl, rfl, rfl, rfl⟩ := h
  obtain ⟨m, hm⟩ : ∃ m : Nat, (mn (mx a1 0) (a0_1.size : Int)).toNat = m := ⟨_, rfl⟩
  rw [hm]
  unfold mn mx at hm
  have key : ∀ k : Nat, k ≤ a0_1.size → (a0_1.extract 0 k).size ≤ 4611686018427387904 := fun k hk => by rw [ByteArray.size_extract]; omega
  by_cases c1 : a1 < 0
  · have hm0 : m = 0 := by rw [if_pos c1] at hm; split at hm <;> omega
    clear hm
    have c1b := decide_eq_true c1
    have hk := key 0 (by omega)
    have c2 : ¬ (a0_1.size : Int) < 0 := by omega
    have c2b := decide_eq_false c2
    obtain rfl := hm0
    go_enter Try.func13, Try.ntmps13
    go_wp2
    go_region
    all_goals
      go_wp2
      refine bodyPost_ret (v := .agg #[.string (a0_0), .string ⟨#[]⟩, .int .i64 (-1), .bool false]) (by simp [results, Try.results13, go_sem]) rfl ⟨by first | rfl | simp, ?_⟩
      repeat (first | exact Below.refl _ _ | refine Below.setCell ?_ (by simp) _ | refine Below.alloc ?_ (by simp <;> omega) _ | refine pw_below_drewN ?_ _ | refine below_drew ?_)
  have c1b := decide_eq_false c1
  by_cases c2 : (a0_1.size : Int) < a1
  · have hm0 : m = a0_1.size := by rw [if_neg c1, if_pos c2] at hm; omega
    clear hm
    have c2b := decide_eq_true c2
    have hk := key a0_1.size (by omega)
    obtain rfl := hm0
    go_enter Try.func13, Try.ntmps13
    go_wp2
    go_region
    all_goals
      go_wp2
      refine bodyPost_ret (v := .agg #[.string (a0_0 ++ a0_1), .string ⟨#[]⟩, .int .i64 (-1), .bool false]) (by simp [results, Try.results13, go_sem]) rfl ⟨by first | rfl | simp, ?_⟩
      repeat (first | exact Below.refl _ _ | refine Below.setCell ?_ (by simp) _ | refine Below.alloc ?_ (by simp <;> omega) _ | refine pw_below_drewN ?_ _ | refine below_drew ?_)
  · have hm0 : a1 = (m : Int) := by rw [if_neg c1, if_neg c2] at hm; omega
    clear hm
    have hm1 : m ≤ a0_1.size := by omega
    subst hm0
    have c2b := decide_eq_false c2
    have hk := key m (by omega)
    go_enter Try.func13, Try.ntmps13
    go_wp2
    go_region
    all_goals
      go_wp2
      refine bodyPost_ret (v := .agg #[.string (a0_0 ++ a0_1.extract 0 m), .string ⟨#[]⟩, .int .i64 (-1), .bool false]) (by simp [results, Try.results13, go_sem]) rfl ⟨by first | rfl | simp, ?_⟩
      repeat (first | exact Below.refl _ _ | refine Below.setCell ?_ (by simp) _ | refine Below.alloc ?_ (by simp <;> omega) _ | refine pw_below_drewN ?_ _ | refine below_drew ?_)
end Go.Proofs.Ytofdgkcaimifkaa.Pr
