/- tape.Write, Sync, Install: what they compute, and that they do. Conditions: none. -/
import Derived.Test.YtofdgkcaimifkaaHandCl
namespace Go.Proofs.Ytofdgkcaimifkaa.Pr
open Go.RowKit Go.Proofs.YtofdgkcaimifkaaW.PrintWords Go.Proofs.YtofdgkcaimifkaaW.PrintLast Go.Proofs.YtofdgkcaimifkaaW.PrintMore
open Go.Proofs.Ytofdgkcaimifkaa.Hnd
attribute [local go_sem] setCell_drewN_ alloc_drewN_
set_option linter.unusedVariables false
set_option linter.unusedSimpArgs false
theorem blk_newAt {W : World} {o : Obj} (n : Nat) (hn : W.heap.size = n) : (W.alloc o).heap[n]? = some o := hn ▸ blk_new W o
def tape_Write.f (a0_0 a0_1 : ByteArray) (a0_2 : Int) (a0_3 : Bool) (a1 : ByteArray) : Option (ByteArray × ByteArray × Int × Bool × Int) :=
  if a0_0.size + a0_1.size + a1.size ≤ 4611686018427387904 then (if a0_3 = true then some (a0_0, a0_1, a0_2, true, 6) else if (a0_0.size : Int) + a0_1.size + a1.size > 262144 then some (a0_0, a0_1, a0_2, false, 5) else if a0_2 = 0 then some (a0_0, a0_1, 0, true, 6) else if 0 < a0_2 then some (a0_0, a0_1 ++ a1, wrap64 (a0_2 - 1), false, 0) else some (a0_0, a0_1 ++ a1, a0_2, false, 0)) else none
set_option maxHeartbeats 4000000 in
set_option maxRecDepth 100000 in
theorem tape_Write.calls (a0_0 a0_1 : ByteArray) (a0_2 : Int) (a0_3 : Bool) (a1 : ByteArray) (r1 r2 : ByteArray) (r3 : Int) (r4 : Bool) (r5 : Int) (w : World) (h : tape_Write.f a0_0 a0_1 a0_2 a0_3 a1 = some (r1, r2, r3, r4, r5)) :
    Calls Try.prog 10 #[.agg #[.string a0_0, .string a0_1, .int .i64 a0_2, .bool a0_3], .string a1] w fun e w' => e = .returned (.tuple #[.agg #[.string r1, .string r2, .int .i64 r3, .bool r4], .int .i64 r5]) ∧ Below w.heap.size w w' := by
  unfold tape_Write.f at h
  by_cases hs : a0_0.size + a0_1.size + a1.size ≤ 4611686018427387904
  rotate_left
  · rw [if_neg hs] at h; cases h
  rw [if_pos hs] at h
  have s0 : a0_0.size ≤ 4611686018427387904 := by omega
  have s1 : a0_1.size ≤ 4611686018427387904 := by omega
  have s2 : a1.size ≤ 4611686018427387904 := by omega
  cases a0_3 with
  | true =>
    rw [if_pos rfl] at h
    simp only [Option.some.injEq, Prod.mk.injEq] at h
    obtain ⟨rfl, rfl, rfl, rfl, rfl⟩ := h
    go_enter Try.func10, Try.ntmps10
    go_wp2
    refine bodyPost_ret (v := .tuple #[.agg #[.string (a0_0), .string (a0_1), .int .i64 (a0_2), .bool true], .int .i64 6]) (by simp [results, Try.results21, go_sem]) rfl ?_
    try simp only [go_sem]
    go_wp2
    refine bodyPost_ret (v := .tuple #[.agg #[.string (a0_0), .string (a0_1), .int .i64 (a0_2), .bool true], .int .i64 6]) (by simp [results, Try.results10, go_sem]) rfl ⟨rfl, ?_⟩
    repeat (first | exact Below.refl _ _ | refine Below.setCell ?_ (by simp) _ | refine Below.alloc ?_ (by simp <;> omega) _ | refine pw_below_drewN ?_ _ | refine below_drew ?_)
  | false =>
    rw [if_neg (by decide)] at h
    by_cases c0 : (a0_0.size : Int) + a0_1.size + a1.size > 262144
    · rw [if_pos c0] at h
      have c0b := decide_eq_true c0
      simp only [Option.some.injEq, Prod.mk.injEq] at h
      obtain ⟨rfl, rfl, rfl, rfl, rfl⟩ := h
      go_enter Try.func10, Try.ntmps10
      go_wp2
      refine bodyPost_ret (v := .tuple #[.agg #[.string (a0_0), .string (a0_1), .int .i64 (a0_2), .bool false], .int .i64 5]) (by simp [results, Try.results21, go_sem]) rfl ?_
      try simp only [go_sem]
      go_wp2
      refine bodyPost_ret (v := .tuple #[.agg #[.string (a0_0), .string (a0_1), .int .i64 (a0_2), .bool false], .int .i64 5]) (by simp [results, Try.results10, go_sem]) rfl ⟨rfl, ?_⟩
      repeat (first | exact Below.refl _ _ | refine Below.setCell ?_ (by simp) _ | refine Below.alloc ?_ (by simp <;> omega) _ | refine pw_below_drewN ?_ _ | refine below_drew ?_)
    rw [if_neg c0] at h
    have c0b := decide_eq_false c0
    by_cases c1 : a0_2 = 0
    · subst c1
      rw [if_pos rfl] at h
      simp only [Option.some.injEq, Prod.mk.injEq] at h
      obtain ⟨rfl, rfl, rfl, rfl, rfl⟩ := h
      go_enter Try.func10, Try.ntmps10
      go_wp2
      refine bodyPost_ret (v := .tuple #[.agg #[.string (a0_0), .string (a0_1), .int .i64 (0), .bool true], .int .i64 6]) (by simp [results, Try.results21, go_sem]) rfl ?_
      try simp only [go_sem]
      go_wp2
      refine bodyPost_ret (v := .tuple #[.agg #[.string (a0_0), .string (a0_1), .int .i64 (0), .bool true], .int .i64 6]) (by simp [results, Try.results10, go_sem]) rfl ⟨rfl, ?_⟩
      repeat (first | exact Below.refl _ _ | refine Below.setCell ?_ (by simp) _ | refine Below.alloc ?_ (by simp <;> omega) _ | refine pw_below_drewN ?_ _ | refine below_drew ?_)
    rw [if_neg c1] at h
    have c1b : (a0_2 == 0) = false := beq_eq_false_iff_ne.mpr c1
    clear c1
    by_cases c2 : 0 < a0_2
    · rw [if_pos c2] at h
      have c2b := decide_eq_true c2
      simp only [Option.some.injEq, Prod.mk.injEq] at h
      obtain ⟨rfl, rfl, rfl, rfl, rfl⟩ := h
      go_enter Try.func10, Try.ntmps10
      go_wp2_with (first | (go_at_call 22; refine Calls.mono (write1 _ _ a0_0 a0_1 a1 (wrap64 (a0_2 - 1)) false _ ?hb ?hs ?h1) ?_; (case hb => (repeat (first | exact blk_newAt _ (by simp) | refine blk_alloc ?_ _))); (case hs => (repeat (first | exact blk_newAt _ (by simp) | refine blk_alloc ?_ _))); (case h1 => omega); rintro e w' ⟨rfl, n, rfl⟩) | go_in)
      refine bodyPost_ret (v := .tuple #[.agg #[.string (a0_0), .string (a0_1 ++ a1), .int .i64 (wrap64 (a0_2 - 1)), .bool false], .int .i64 0]) (by simp [results, Try.results21, go_sem]) rfl ?_
      try simp only [go_sem]
      go_wp2
      refine bodyPost_ret (v := .tuple #[.agg #[.string (a0_0), .string (a0_1 ++ a1), .int .i64 (wrap64 (a0_2 - 1)), .bool false], .int .i64 0]) (by simp [results, Try.results10, go_sem]) rfl ⟨rfl, ?_⟩
      repeat (first | exact Below.refl _ _ | refine Below.setCell ?_ (by simp) _ | refine Below.alloc ?_ (by simp <;> omega) _ | refine pw_below_drewN ?_ _ | refine below_drew ?_)
    · rw [if_neg c2] at h
      have c2b := decide_eq_false c2
      simp only [Option.some.injEq, Prod.mk.injEq] at h
      obtain ⟨rfl, rfl, rfl, rfl, rfl⟩ := h
      go_enter Try.func10, Try.ntmps10
      go_wp2_with (first | (go_at_call 22; refine Calls.mono (write1 _ _ a0_0 a0_1 a1 a0_2 false _ ?hb ?hs ?h1) ?_; (case hb => (repeat (first | exact blk_newAt _ (by simp) | refine blk_alloc ?_ _))); (case hs => (repeat (first | exact blk_newAt _ (by simp) | refine blk_alloc ?_ _))); (case h1 => omega); rintro e w' ⟨rfl, n, rfl⟩) | go_in)
      refine bodyPost_ret (v := .tuple #[.agg #[.string (a0_0), .string (a0_1 ++ a1), .int .i64 (a0_2), .bool false], .int .i64 0]) (by simp [results, Try.results21, go_sem]) rfl ?_
      try simp only [go_sem]
      go_wp2
      refine bodyPost_ret (v := .tuple #[.agg #[.string (a0_0), .string (a0_1 ++ a1), .int .i64 (a0_2), .bool false], .int .i64 0]) (by simp [results, Try.results10, go_sem]) rfl ⟨rfl, ?_⟩
      repeat (first | exact Below.refl _ _ | refine Below.setCell ?_ (by simp) _ | refine Below.alloc ?_ (by simp <;> omega) _ | refine pw_below_drewN ?_ _ | refine below_drew ?_)
def tape_Sync.f (a0_0 a0_1 : ByteArray) (a0_2 : Int) (a0_3 : Bool) : Option (ByteArray × ByteArray × Int × Bool × Int) :=
  if a0_0.size + a0_1.size ≤ 4611686018427387904 then (if a0_3 = true then some (a0_0, a0_1, a0_2, true, 6) else if a0_2 = 0 then some (a0_0, a0_1, 0, true, 6) else if 0 < a0_2 then some (a0_0 ++ a0_1, (⟨#[]⟩ : ByteArray), wrap64 (a0_2 - 1), false, 0) else some (a0_0 ++ a0_1, (⟨#[]⟩ : ByteArray), a0_2, false, 0)) else none
set_option maxHeartbeats 4000000 in
set_option maxRecDepth 100000 in
theorem tape_Sync.calls (a0_0 a0_1 : ByteArray) (a0_2 : Int) (a0_3 : Bool) (r1 r2 : ByteArray) (r3 : Int) (r4 : Bool) (r5 : Int) (w : World) (h : tape_Sync.f a0_0 a0_1 a0_2 a0_3 = some (r1, r2, r3, r4, r5)) :
    Calls Try.prog 16 #[.agg #[.string a0_0, .string a0_1, .int .i64 a0_2, .bool a0_3]] w fun e w' => e = .returned (.tuple #[.agg #[.string r1, .string r2, .int .i64 r3, .bool r4], .int .i64 r5]) ∧ Below w.heap.size w w' := by
  unfold tape_Sync.f at h
  by_cases hs : a0_0.size + a0_1.size ≤ 4611686018427387904
  rotate_left
  · rw [if_neg hs] at h; cases h
  rw [if_pos hs] at h
  have s0 : a0_0.size ≤ 4611686018427387904 := by omega
  have s1 : a0_1.size ≤ 4611686018427387904 := by omega
  cases a0_3 with
  | true =>
    rw [if_pos rfl] at h
    simp only [Option.some.injEq, Prod.mk.injEq] at h
    obtain ⟨rfl, rfl, rfl, rfl, rfl⟩ := h
    go_enter Try.func16, Try.ntmps16
    go_wp2
    refine bodyPost_ret (v := .tuple #[.agg #[.string (a0_0), .string (a0_1), .int .i64 (a0_2), .bool true], .int .i64 6]) (by simp [results, Try.results21, go_sem]) rfl ?_
    try simp only [go_sem]
    go_wp2
    refine bodyPost_ret (v := .tuple #[.agg #[.string (a0_0), .string (a0_1), .int .i64 (a0_2), .bool true], .int .i64 6]) (by simp [results, Try.results16, go_sem]) rfl ⟨rfl, ?_⟩
    repeat (first | exact Below.refl _ _ | refine Below.setCell ?_ (by simp) _ | refine Below.alloc ?_ (by simp <;> omega) _ | refine pw_below_drewN ?_ _ | refine below_drew ?_)
  | false =>
    rw [if_neg (by decide)] at h
    by_cases c1 : a0_2 = 0
    · subst c1
      rw [if_pos rfl] at h
      simp only [Option.some.injEq, Prod.mk.injEq] at h
      obtain ⟨rfl, rfl, rfl, rfl, rfl⟩ := h
      go_enter Try.func16, Try.ntmps16
      go_wp2
      refine bodyPost_ret (v := .tuple #[.agg #[.string (a0_0), .string (a0_1), .int .i64 (0), .bool true], .int .i64 6]) (by simp [results, Try.results21, go_sem]) rfl ?_
      try simp only [go_sem]
      go_wp2
      refine bodyPost_ret (v := .tuple #[.agg #[.string (a0_0), .string (a0_1), .int .i64 (0), .bool true], .int .i64 6]) (by simp [results, Try.results16, go_sem]) rfl ⟨rfl, ?_⟩
      repeat (first | exact Below.refl _ _ | refine Below.setCell ?_ (by simp) _ | refine Below.alloc ?_ (by simp <;> omega) _ | refine pw_below_drewN ?_ _ | refine below_drew ?_)
    rw [if_neg c1] at h
    have c1b : (a0_2 == 0) = false := beq_eq_false_iff_ne.mpr c1
    clear c1
    by_cases c2 : 0 < a0_2
    · rw [if_pos c2] at h
      have c2b := decide_eq_true c2
      simp only [Option.some.injEq, Prod.mk.injEq] at h
      obtain ⟨rfl, rfl, rfl, rfl, rfl⟩ := h
      go_enter Try.func16, Try.ntmps16
      go_wp2_with (first | (go_at_call 24; refine Calls.mono (sync1 _ a0_0 a0_1 (wrap64 (a0_2 - 1)) false _ ?hb ?h1) ?_; (case hb => (repeat (first | exact blk_newAt _ (by simp) | refine blk_alloc ?_ _))); (case h1 => omega); rintro e w' ⟨rfl, n, rfl⟩) | go_in)
      refine bodyPost_ret (v := .tuple #[.agg #[.string (a0_0 ++ a0_1), .string ((⟨#[]⟩ : ByteArray)), .int .i64 (wrap64 (a0_2 - 1)), .bool false], .int .i64 0]) (by simp [results, Try.results21, go_sem]) rfl ?_
      try simp only [go_sem]
      go_wp2
      refine bodyPost_ret (v := .tuple #[.agg #[.string (a0_0 ++ a0_1), .string ((⟨#[]⟩ : ByteArray)), .int .i64 (wrap64 (a0_2 - 1)), .bool false], .int .i64 0]) (by simp [results, Try.results16, go_sem]) rfl ⟨rfl, ?_⟩
      repeat (first | exact Below.refl _ _ | refine Below.setCell ?_ (by simp) _ | refine Below.alloc ?_ (by simp <;> omega) _ | refine pw_below_drewN ?_ _ | refine below_drew ?_)
    · rw [if_neg c2] at h
      have c2b := decide_eq_false c2
      simp only [Option.some.injEq, Prod.mk.injEq] at h
      obtain ⟨rfl, rfl, rfl, rfl, rfl⟩ := h
      go_enter Try.func16, Try.ntmps16
      go_wp2_with (first | (go_at_call 24; refine Calls.mono (sync1 _ a0_0 a0_1 a0_2 false _ ?hb ?h1) ?_; (case hb => (repeat (first | exact blk_newAt _ (by simp) | refine blk_alloc ?_ _))); (case h1 => omega); rintro e w' ⟨rfl, n, rfl⟩) | go_in)
      refine bodyPost_ret (v := .tuple #[.agg #[.string (a0_0 ++ a0_1), .string ((⟨#[]⟩ : ByteArray)), .int .i64 (a0_2), .bool false], .int .i64 0]) (by simp [results, Try.results21, go_sem]) rfl ?_
      try simp only [go_sem]
      go_wp2
      refine bodyPost_ret (v := .tuple #[.agg #[.string (a0_0 ++ a0_1), .string ((⟨#[]⟩ : ByteArray)), .int .i64 (a0_2), .bool false], .int .i64 0]) (by simp [results, Try.results16, go_sem]) rfl ⟨rfl, ?_⟩
      repeat (first | exact Below.refl _ _ | refine Below.setCell ?_ (by simp) _ | refine Below.alloc ?_ (by simp <;> omega) _ | refine pw_below_drewN ?_ _ | refine below_drew ?_)
def tape_Install.f (a0_0 a0_1 : ByteArray) (a0_2 : Int) (a0_3 : Bool) (a1 : ByteArray) : Option (ByteArray × ByteArray × Int × Bool × Int) :=
  if a0_0.size + a0_1.size + a1.size ≤ 4611686018427387904 then (if a0_3 = true then some (a0_0, a0_1, a0_2, true, 6) else if (a1.size : Int) > 262144 then some (a0_0, a0_1, a0_2, false, 5) else if a0_2 = 0 then some (a0_0, a0_1, 0, true, 6) else if 0 < a0_2 then some (a1, (⟨#[]⟩ : ByteArray), wrap64 (a0_2 - 1), false, 0) else some (a1, (⟨#[]⟩ : ByteArray), a0_2, false, 0)) else none
set_option maxHeartbeats 4000000 in
set_option maxRecDepth 100000 in
theorem tape_Install.calls (a0_0 a0_1 : ByteArray) (a0_2 : Int) (a0_3 : Bool) (a1 : ByteArray) (r1 r2 : ByteArray) (r3 : Int) (r4 : Bool) (r5 : Int) (w : World) (h : tape_Install.f a0_0 a0_1 a0_2 a0_3 a1 = some (r1, r2, r3, r4, r5)) :
    Calls Try.prog 18 #[.agg #[.string a0_0, .string a0_1, .int .i64 a0_2, .bool a0_3], .string a1] w fun e w' => e = .returned (.tuple #[.agg #[.string r1, .string r2, .int .i64 r3, .bool r4], .int .i64 r5]) ∧ Below w.heap.size w w' := by
  unfold tape_Install.f at h
  by_cases hs : a0_0.size + a0_1.size + a1.size ≤ 4611686018427387904
  rotate_left
  · rw [if_neg hs] at h; cases h
  rw [if_pos hs] at h
  have s0 : a0_0.size ≤ 4611686018427387904 := by omega
  have s1 : a0_1.size ≤ 4611686018427387904 := by omega
  have s2 : a1.size ≤ 4611686018427387904 := by omega
  cases a0_3 with
  | true =>
    rw [if_pos rfl] at h
    simp only [Option.some.injEq, Prod.mk.injEq] at h
    obtain ⟨rfl, rfl, rfl, rfl, rfl⟩ := h
    go_enter Try.func18, Try.ntmps18
    go_wp2
    refine bodyPost_ret (v := .tuple #[.agg #[.string (a0_0), .string (a0_1), .int .i64 (a0_2), .bool true], .int .i64 6]) (by simp [results, Try.results21, go_sem]) rfl ?_
    try simp only [go_sem]
    go_wp2
    refine bodyPost_ret (v := .tuple #[.agg #[.string (a0_0), .string (a0_1), .int .i64 (a0_2), .bool true], .int .i64 6]) (by simp [results, Try.results18, go_sem]) rfl ⟨rfl, ?_⟩
    repeat (first | exact Below.refl _ _ | refine Below.setCell ?_ (by simp) _ | refine Below.alloc ?_ (by simp <;> omega) _ | refine pw_below_drewN ?_ _ | refine below_drew ?_)
  | false =>
    rw [if_neg (by decide)] at h
    by_cases c0 : (a1.size : Int) > 262144
    · rw [if_pos c0] at h
      have c0b := decide_eq_true c0
      simp only [Option.some.injEq, Prod.mk.injEq] at h
      obtain ⟨rfl, rfl, rfl, rfl, rfl⟩ := h
      go_enter Try.func18, Try.ntmps18
      go_wp2
      refine bodyPost_ret (v := .tuple #[.agg #[.string (a0_0), .string (a0_1), .int .i64 (a0_2), .bool false], .int .i64 5]) (by simp [results, Try.results21, go_sem]) rfl ?_
      try simp only [go_sem]
      go_wp2
      refine bodyPost_ret (v := .tuple #[.agg #[.string (a0_0), .string (a0_1), .int .i64 (a0_2), .bool false], .int .i64 5]) (by simp [results, Try.results18, go_sem]) rfl ⟨rfl, ?_⟩
      repeat (first | exact Below.refl _ _ | refine Below.setCell ?_ (by simp) _ | refine Below.alloc ?_ (by simp <;> omega) _ | refine pw_below_drewN ?_ _ | refine below_drew ?_)
    rw [if_neg c0] at h
    have c0b := decide_eq_false c0
    by_cases c1 : a0_2 = 0
    · subst c1
      rw [if_pos rfl] at h
      simp only [Option.some.injEq, Prod.mk.injEq] at h
      obtain ⟨rfl, rfl, rfl, rfl, rfl⟩ := h
      go_enter Try.func18, Try.ntmps18
      go_wp2
      refine bodyPost_ret (v := .tuple #[.agg #[.string (a0_0), .string (a0_1), .int .i64 (0), .bool true], .int .i64 6]) (by simp [results, Try.results21, go_sem]) rfl ?_
      try simp only [go_sem]
      go_wp2
      refine bodyPost_ret (v := .tuple #[.agg #[.string (a0_0), .string (a0_1), .int .i64 (0), .bool true], .int .i64 6]) (by simp [results, Try.results18, go_sem]) rfl ⟨rfl, ?_⟩
      repeat (first | exact Below.refl _ _ | refine Below.setCell ?_ (by simp) _ | refine Below.alloc ?_ (by simp <;> omega) _ | refine pw_below_drewN ?_ _ | refine below_drew ?_)
    rw [if_neg c1] at h
    have c1b : (a0_2 == 0) = false := beq_eq_false_iff_ne.mpr c1
    clear c1
    by_cases c2 : 0 < a0_2
    · rw [if_pos c2] at h
      have c2b := decide_eq_true c2
      simp only [Option.some.injEq, Prod.mk.injEq] at h
      obtain ⟨rfl, rfl, rfl, rfl, rfl⟩ := h
      go_enter Try.func18, Try.ntmps18
      go_wp2_with (first | (go_at_call 25; refine Calls.mono (install1 _ _ a0_0 a0_1 a1 (wrap64 (a0_2 - 1)) false _ ?hb ?hs) ?_; (case hb => (repeat (first | exact blk_newAt _ (by simp) | refine blk_alloc ?_ _))); (case hs => (repeat (first | exact blk_newAt _ (by simp) | refine blk_alloc ?_ _))); rintro e w' ⟨rfl, n, rfl⟩) | go_in)
      refine bodyPost_ret (v := .tuple #[.agg #[.string (a1), .string ((⟨#[]⟩ : ByteArray)), .int .i64 (wrap64 (a0_2 - 1)), .bool false], .int .i64 0]) (by simp [results, Try.results21, go_sem]) rfl ?_
      try simp only [go_sem]
      go_wp2
      refine bodyPost_ret (v := .tuple #[.agg #[.string (a1), .string ((⟨#[]⟩ : ByteArray)), .int .i64 (wrap64 (a0_2 - 1)), .bool false], .int .i64 0]) (by simp [results, Try.results18, go_sem]) rfl ⟨rfl, ?_⟩
      repeat (first | exact Below.refl _ _ | refine Below.setCell ?_ (by simp) _ | refine Below.alloc ?_ (by simp <;> omega) _ | refine pw_below_drewN ?_ _ | refine below_drew ?_)
    · rw [if_neg c2] at h
      have c2b := decide_eq_false c2
      simp only [Option.some.injEq, Prod.mk.injEq] at h
      obtain ⟨rfl, rfl, rfl, rfl, rfl⟩ := h
      go_enter Try.func18, Try.ntmps18
      go_wp2_with (first | (go_at_call 25; refine Calls.mono (install1 _ _ a0_0 a0_1 a1 a0_2 false _ ?hb ?hs) ?_; (case hb => (repeat (first | exact blk_newAt _ (by simp) | refine blk_alloc ?_ _))); (case hs => (repeat (first | exact blk_newAt _ (by simp) | refine blk_alloc ?_ _))); rintro e w' ⟨rfl, n, rfl⟩) | go_in)
      refine bodyPost_ret (v := .tuple #[.agg #[.string (a1), .string ((⟨#[]⟩ : ByteArray)), .int .i64 (a0_2), .bool false], .int .i64 0]) (by simp [results, Try.results21, go_sem]) rfl ?_
      try simp only [go_sem]
      go_wp2
      refine bodyPost_ret (v := .tuple #[.agg #[.string (a1), .string ((⟨#[]⟩ : ByteArray)), .int .i64 (a0_2), .bool false], .int .i64 0]) (by simp [results, Try.results18, go_sem]) rfl ⟨rfl, ?_⟩
      repeat (first | exact Below.refl _ _ | refine Below.setCell ?_ (by simp) _ | refine Below.alloc ?_ (by simp <;> omega) _ | refine pw_below_drewN ?_ _ | refine below_drew ?_)
end Go.Proofs.Ytofdgkcaimifkaa.Pr
