/- ferruleref03 Write, Sync and Crash: what they compute, and that they do. Conditions: none. -/
import Derived.Test.YtfjhlcbpogihmaaKNoteLasts2
import Derived.Test.YtfjhlcbpogihmaaKNoteLasts1
namespace Go.Proofs.Ytfjhlcbpogihmaa.Pr
open Go.RowKit Go.Proofs.YtfjhlcbpogihmaaW.PrintWords Go.Proofs.YtfjhlcbpogihmaaW.PrintLast Go.Proofs.YtfjhlcbpogihmaaW.PrintMore
open Go.Proofs.Ytfjhlcbpogihmaa.Hnd
attribute [local go_sem] setCell_drewN_ alloc_drewN_
attribute [local go_sem] max2_int min2_int max_two min_two
set_option linter.unusedVariables false
set_option linter.unusedSimpArgs false
def tape_Write.f (a0_0 a0_1 : ByteArray) (a0_2 : Int) (a0_3 : Bool) (a1 : ByteArray) : Option (ByteArray × ByteArray × Int × Bool × Int) :=
  if a0_0.size + a0_1.size + a1.size ≤ 4611686018427387904 then (if a0_3 = true then some (a0_0, a0_1, a0_2, true, 6) else if (a0_0.size : Int) + a0_1.size + a1.size > 262144 then some (a0_0, a0_1, a0_2, false, 5) else if a0_2 = 0 then some (a0_0, a0_1, 0, true, 6) else if 0 < a0_2 then some (a0_0, a0_1 ++ a1, wrap64 (a0_2 - 1), false, 0) else some (a0_0, a0_1 ++ a1, a0_2, false, 0)) else none
def tape_Sync.f (a0_0 a0_1 : ByteArray) (a0_2 : Int) (a0_3 : Bool) : Option (ByteArray × ByteArray × Int × Bool × Int) :=
  if a0_0.size + a0_1.size ≤ 4611686018427387904 then (if a0_3 = true then some (a0_0, a0_1, a0_2, true, 6) else if a0_2 = 0 then some (a0_0, a0_1, 0, true, 6) else if 0 < a0_2 then some (a0_0 ++ a0_1, (⟨#[]⟩ : ByteArray), wrap64 (a0_2 - 1), false, 0) else some (a0_0 ++ a0_1, (⟨#[]⟩ : ByteArray), a0_2, false, 0)) else none
def ferruleref03_Write.f (a0_0 a0_1 : ByteArray) (a0_2 : Int) (a0_3 : Bool) (a1 : ByteArray) : Option (ByteArray × ByteArray × Int × Bool × Int) := tape_Write.f a0_0 a0_1 a0_2 a0_3 a1
set_option maxHeartbeats 4000000 in
set_option maxRecDepth 100000 in
theorem ferruleref03_Write.calls (a0_0 a0_1 : ByteArray) (a0_2 : Int) (a0_3 : Bool) (a1 : ByteArray) (r1 r2 : ByteArray) (r3 : Int) (r4 : Bool) (r5 : Int) (w : World) (h : ferruleref03_Write.f a0_0 a0_1 a0_2 a0_3 a1 = some (r1, r2, r3, r4, r5)) :
    Calls Try.prog 19 #[.agg #[.string a0_0, .string a0_1, .int .i64 a0_2, .bool a0_3], .string a1] w fun e w' => e = .returned (.tuple #[.agg #[.string r1, .string r2, .int .i64 r3, .bool r4], .int .i64 r5]) ∧ Below w.heap.size w w' := by
  unfold ferruleref03_Write.f tape_Write.f at h
  by_cases hs : a0_0.size + a0_1.size + a1.size ≤ 4611686018427387904
  rotate_left
  · rw [if_neg hs] at h; cases h
  rw [if_pos hs] at h
  have s0 : a0_0.size ≤ 4611686018427387904 := by omega
  have s1 : a0_1.size ≤ 4611686018427387904 := by omega
  have s2 : a1.size ≤ 4611686018427387904 := by omega
  cases a0_3 with
  | true =>
    rw [if_pos rfl] at h
    simp only [Option.some.injEq, Prod.mk.injEq] at h
    obtain ⟨rfl, rfl, rfl, rfl, rfl⟩ := h
    go_enter Try.func19, Try.ntmps19
    go_wp2
    refine bodyPost_ret (v := .tuple #[.agg #[.string (a0_0), .string (a0_1), .int .i64 (a0_2), .bool true], .int .i64 6]) (by simp [results, Try.results19, go_sem]) rfl ⟨rfl, ?_⟩
    repeat (first | exact Below.refl _ _ | refine Below.setCell ?_ (by simp) _ | refine Below.alloc ?_ (by simp <;> omega) _ | refine pw_below_drewN ?_ _ | refine below_drew ?_)
  | false =>
    rw [if_neg (by decide)] at h
    by_cases c0 : (a0_0.size : Int) + a0_1.size + a1.size > 262144
    · rw [if_pos c0] at h
      have c0b := decide_eq_true c0
      simp only [Option.some.injEq, Prod.mk.injEq] at h
      obtain ⟨rfl, rfl, rfl, rfl, rfl⟩ := h
      go_enter Try.func19, Try.ntmps19
      go_wp2
      refine bodyPost_ret (v := .tuple #[.agg #[.string (a0_0), .string (a0_1), .int .i64 (a0_2), .bool false], .int .i64 5]) (by simp [results, Try.results19, go_sem]) rfl ⟨rfl, ?_⟩
      repeat (first | exact Below.refl _ _ | refine Below.setCell ?_ (by simp) _ | refine Below.alloc ?_ (by simp <;> omega) _ | refine pw_below_drewN ?_ _ | refine below_drew ?_)
    rw [if_neg c0] at h
    have c0b := decide_eq_false c0
    by_cases c1 : a0_2 = 0
    · subst c1
      rw [if_pos rfl] at h
      simp only [Option.some.injEq, Prod.mk.injEq] at h
      obtain ⟨rfl, rfl, rfl, rfl, rfl⟩ := h
      go_enter Try.func19, Try.ntmps19
      go_wp2
      refine bodyPost_ret (v := .tuple #[.agg #[.string (a0_0), .string (a0_1), .int .i64 (0), .bool true], .bool false]) (by simp [results, Try.results48, go_sem]) rfl ?_
      try simp only [go_sem]
      go_wp2
      refine bodyPost_ret (v := .tuple #[.agg #[.string (a0_0), .string (a0_1), .int .i64 (0), .bool true], .int .i64 6]) (by simp [results, Try.results19, go_sem]) rfl ⟨rfl, ?_⟩
      repeat (first | exact Below.refl _ _ | refine Below.setCell ?_ (by simp) _ | refine Below.alloc ?_ (by simp <;> omega) _ | refine pw_below_drewN ?_ _ | refine below_drew ?_)
    rw [if_neg c1] at h
    have c1b : (a0_2 == 0) = false := beq_eq_false_iff_ne.mpr c1
    clear c1
    by_cases c2 : 0 < a0_2
    · rw [if_pos c2] at h
      have c2b := decide_eq_true c2
      simp only [Option.some.injEq, Prod.mk.injEq] at h
      obtain ⟨rfl, rfl, rfl, rfl, rfl⟩ := h
      go_enter Try.func19, Try.ntmps19
      go_wp2
      refine bodyPost_ret (v := .tuple #[.agg #[.string (a0_0), .string (a0_1), .int .i64 (wrap64 (a0_2 - 1)), .bool false], .bool true]) (by simp [results, Try.results48, go_sem]) rfl ?_
      try simp only [go_sem]
      go_wp2
      refine bodyPost_ret (v := .tuple #[.agg #[.string (a0_0), .string (a0_1 ++ a1), .int .i64 (wrap64 (a0_2 - 1)), .bool false], .int .i64 0]) (by simp [results, Try.results19, go_sem]) rfl ⟨rfl, ?_⟩
      repeat (first | exact Below.refl _ _ | refine Below.setCell ?_ (by simp) _ | refine Below.alloc ?_ (by simp <;> omega) _ | refine pw_below_drewN ?_ _ | refine below_drew ?_)
    · rw [if_neg c2] at h
      have c2b := decide_eq_false c2
      simp only [Option.some.injEq, Prod.mk.injEq] at h
      obtain ⟨rfl, rfl, rfl, rfl, rfl⟩ := h
      go_enter Try.func19, Try.ntmps19
      go_wp2
      refine bodyPost_ret (v := .tuple #[.agg #[.string (a0_0), .string (a0_1), .int .i64 (a0_2), .bool false], .bool true]) (by simp [results, Try.results48, go_sem]) rfl ?_
      try simp only [go_sem]
      go_wp2
      refine bodyPost_ret (v := .tuple #[.agg #[.string (a0_0), .string (a0_1 ++ a1), .int .i64 (a0_2), .bool false], .int .i64 0]) (by simp [results, Try.results19, go_sem]) rfl ⟨rfl, ?_⟩
      repeat (first | exact Below.refl _ _ | refine Below.setCell ?_ (by simp) _ | refine Below.alloc ?_ (by simp <;> omega) _ | refine pw_below_drewN ?_ _ | refine below_drew ?_)
def ferruleref03_Sync.f (a0_0 a0_1 : ByteArray) (a0_2 : Int) (a0_3 : Bool) : Option (ByteArray × ByteArray × Int × Bool × Int) := tape_Sync.f a0_0 a0_1 a0_2 a0_3
set_option maxHeartbeats 4000000 in
set_option maxRecDepth 100000 in
theorem ferruleref03_Sync.calls (a0_0 a0_1 : ByteArray) (a0_2 : Int) (a0_3 : Bool) (r1 r2 : ByteArray) (r3 : Int) (r4 : Bool) (r5 : Int) (w : World) (h : ferruleref03_Sync.f a0_0 a0_1 a0_2 a0_3 = some (r1, r2, r3, r4, r5)) :
    Calls Try.prog 20 #[.agg #[.string a0_0, .string a0_1, .int .i64 a0_2, .bool a0_3]] w fun e w' => e = .returned (.tuple #[.agg #[.string r1, .string r2, .int .i64 r3, .bool r4], .int .i64 r5]) ∧ Below w.heap.size w w' := by
  unfold ferruleref03_Sync.f tape_Sync.f at h
  by_cases hs : a0_0.size + a0_1.size ≤ 4611686018427387904
  rotate_left
  · rw [if_neg hs] at h; cases h
  rw [if_pos hs] at h
  have s0 : a0_0.size ≤ 4611686018427387904 := by omega
  have s1 : a0_1.size ≤ 4611686018427387904 := by omega
  cases a0_3 with
  | true =>
    rw [if_pos rfl] at h
    simp only [Option.some.injEq, Prod.mk.injEq] at h
    obtain ⟨rfl, rfl, rfl, rfl, rfl⟩ := h
    go_enter Try.func20, Try.ntmps20
    go_wp2
    refine bodyPost_ret (v := .tuple #[.agg #[.string (a0_0), .string (a0_1), .int .i64 (a0_2), .bool true], .int .i64 6]) (by simp [results, Try.results20, go_sem]) rfl ⟨rfl, ?_⟩
    repeat (first | exact Below.refl _ _ | refine Below.setCell ?_ (by simp) _ | refine Below.alloc ?_ (by simp <;> omega) _ | refine pw_below_drewN ?_ _ | refine below_drew ?_)
  | false =>
    rw [if_neg (by decide)] at h
    by_cases c1 : a0_2 = 0
    · subst c1
      rw [if_pos rfl] at h
      simp only [Option.some.injEq, Prod.mk.injEq] at h
      obtain ⟨rfl, rfl, rfl, rfl, rfl⟩ := h
      go_enter Try.func20, Try.ntmps20
      go_wp2
      refine bodyPost_ret (v := .tuple #[.agg #[.string (a0_0), .string (a0_1), .int .i64 (0), .bool true], .bool false]) (by simp [results, Try.results48, go_sem]) rfl ?_
      try simp only [go_sem]
      go_wp2
      refine bodyPost_ret (v := .tuple #[.agg #[.string (a0_0), .string (a0_1), .int .i64 (0), .bool true], .int .i64 6]) (by simp [results, Try.results20, go_sem]) rfl ⟨rfl, ?_⟩
      repeat (first | exact Below.refl _ _ | refine Below.setCell ?_ (by simp) _ | refine Below.alloc ?_ (by simp <;> omega) _ | refine pw_below_drewN ?_ _ | refine below_drew ?_)
    rw [if_neg c1] at h
    have c1b : (a0_2 == 0) = false := beq_eq_false_iff_ne.mpr c1
    clear c1
    by_cases c2 : 0 < a0_2
    · rw [if_pos c2] at h
      have c2b := decide_eq_true c2
      simp only [Option.some.injEq, Prod.mk.injEq] at h
      obtain ⟨rfl, rfl, rfl, rfl, rfl⟩ := h
      go_enter Try.func20, Try.ntmps20
      go_wp2
      refine bodyPost_ret (v := .tuple #[.agg #[.string (a0_0), .string (a0_1), .int .i64 (wrap64 (a0_2 - 1)), .bool false], .bool true]) (by simp [results, Try.results48, go_sem]) rfl ?_
      try simp only [go_sem]
      go_wp2
      refine bodyPost_ret (v := .tuple #[.agg #[.string (a0_0 ++ a0_1), .string ((⟨#[]⟩ : ByteArray)), .int .i64 (wrap64 (a0_2 - 1)), .bool false], .int .i64 0]) (by simp [results, Try.results20, go_sem]) rfl ⟨rfl, ?_⟩
      repeat (first | exact Below.refl _ _ | refine Below.setCell ?_ (by simp) _ | refine Below.alloc ?_ (by simp <;> omega) _ | refine pw_below_drewN ?_ _ | refine below_drew ?_)
    · rw [if_neg c2] at h
      have c2b := decide_eq_false c2
      simp only [Option.some.injEq, Prod.mk.injEq] at h
      obtain ⟨rfl, rfl, rfl, rfl, rfl⟩ := h
      go_enter Try.func20, Try.ntmps20
      go_wp2
      refine bodyPost_ret (v := .tuple #[.agg #[.string (a0_0), .string (a0_1), .int .i64 (a0_2), .bool false], .bool true]) (by simp [results, Try.results48, go_sem]) rfl ?_
      try simp only [go_sem]
      go_wp2
      refine bodyPost_ret (v := .tuple #[.agg #[.string (a0_0 ++ a0_1), .string ((⟨#[]⟩ : ByteArray)), .int .i64 (a0_2), .bool false], .int .i64 0]) (by simp [results, Try.results20, go_sem]) rfl ⟨rfl, ?_⟩
      repeat (first | exact Below.refl _ _ | refine Below.setCell ?_ (by simp) _ | refine Below.alloc ?_ (by simp <;> omega) _ | refine pw_below_drewN ?_ _ | refine below_drew ?_)
def crashI (a0_0 a0_1 : ByteArray) (a1 : Int) : Option (ByteArray × ByteArray × Int × Bool) := if a0_0.size + a0_1.size ≤ 4611686018427387904 then some (a0_0 ++ a0_1.extract 0 (mn (mx a1 0) (a0_1.size : Int)).toNat, (⟨#[]⟩ : ByteArray), -1, false) else none
def ferruleref03_Crash.f (a0_0 a0_1 : ByteArray) (a0_2 : Int) (a0_3 : Bool) (a1 : Int) : Option (ByteArray × ByteArray × Int × Bool) := crashI a0_0 a0_1 a1
set_option maxHeartbeats 4000000 in
set_option maxRecDepth 100000 in
theorem ferruleref03_Crash.calls (a0_0 a0_1 : ByteArray) (a0_2 : Int) (a0_3 : Bool) (a1 : Int) (r1 r2 : ByteArray) (r3 : Int) (r4 : Bool) (w : World) (h : ferruleref03_Crash.f a0_0 a0_1 a0_2 a0_3 a1 = some (r1, r2, r3, r4)) :
    Calls Try.prog 22 #[.agg #[.string a0_0, .string a0_1, .int .i64 a0_2, .bool a0_3], .int .i64 a1] w fun e w' => e = .returned (.agg #[.string r1, .string r2, .int .i64 r3, .bool r4]) ∧ Below w.heap.size w w' := by
  unfold ferruleref03_Crash.f crashI at h
  by_cases hs : a0_0.size + a0_1.size ≤ 4611686018427387904
  rotate_left
  · rw [if_neg hs] at h; cases h
  rw [if_pos hs] at h
  have s0 : a0_0.size ≤ 4611686018427387904 := by omega
  have s1 : a0_1.size ≤ 4611686018427387904 := by omega
  simp only [Option.some.injEq, Prod.mk.injEq] at h
  obtain ⟨rfl, rfl, rfl, rfl⟩ := h
  obtain ⟨m, hm⟩ : ∃ m : Nat, (mn (mx a1 0) (a0_1.size : Int)).toNat = m := ⟨_, rfl⟩
  rw [hm]
  unfold mn mx at hm
  have key : ∀ k : Nat, k ≤ a0_1.size → (a0_1.extract 0 k).size ≤ 4611686018427387904 := fun k hk => by rw [ByteArray.size_extract]; omega
  by_cases c1 : a1 < 0
  · have hm0 : m = 0 := by rw [if_pos c1] at hm; split at hm <;> omega
    clear hm
    have c1b := decide_eq_true c1
    have hk := key 0 (by omega)
    have c2 : ¬ (a0_1.size : Int) < 0 := by omega
    have c2b := decide_eq_false c2
    obtain rfl := hm0
    go_enter Try.func22, Try.ntmps22
    go_wp2
    go_region
    all_goals
      go_wp2
      refine bodyPost_ret (v := .agg #[.string (a0_0), .string ⟨#[]⟩, .int .i64 (-1), .bool false]) (by simp [results, Try.results22, go_sem]) rfl ⟨by first | rfl | simp, ?_⟩
      repeat (first | exact Below.refl _ _ | refine Below.setCell ?_ (by simp) _ | refine Below.alloc ?_ (by simp <;> omega) _ | refine pw_below_drewN ?_ _ | refine below_drew ?_)
  have c1b := decide_eq_false c1
  by_cases c2 : (a0_1.size : Int) < a1
  · have hm0 : m = a0_1.size := by rw [if_neg c1, if_pos c2] at hm; omega
    clear hm
    have c2b := decide_eq_true c2
    have hk := key a0_1.size (by omega)
    obtain rfl := hm0
    go_enter Try.func22, Try.ntmps22
    go_wp2
    go_region
    all_goals
      go_wp2
      refine bodyPost_ret (v := .agg #[.string (a0_0 ++ a0_1), .string ⟨#[]⟩, .int .i64 (-1), .bool false]) (by simp [results, Try.results22, go_sem]) rfl ⟨by first | rfl | simp, ?_⟩
      repeat (first | exact Below.refl _ _ | refine Below.setCell ?_ (by simp) _ | refine Below.alloc ?_ (by simp <;> omega) _ | refine pw_below_drewN ?_ _ | refine below_drew ?_)
  · have hm0 : a1 = (m : Int) := by rw [if_neg c1, if_neg c2] at hm; omega
    clear hm
    have hm1 : m ≤ a0_1.size := by omega
    subst hm0
    have c2b := decide_eq_false c2
    have hk := key m (by omega)
    go_enter Try.func22, Try.ntmps22
    go_wp2
    go_region
    all_goals
      go_wp2
      refine bodyPost_ret (v := .agg #[.string (a0_0 ++ a0_1.extract 0 m), .string ⟨#[]⟩, .int .i64 (-1), .bool false]) (by simp [results, Try.results22, go_sem]) rfl ⟨by first | rfl | simp, ?_⟩
      repeat (first | exact Below.refl _ _ | refine Below.setCell ?_ (by simp) _ | refine Below.alloc ?_ (by simp <;> omega) _ | refine pw_below_drewN ?_ _ | refine below_drew ?_)
end Go.Proofs.Ytfjhlcbpogihmaa.Pr
