/- tape.Install: what it computes, and that it does. Conditions: none. -/
import Derived.Test.YtfjhlcbpogihmaaGNoteBackPr0
import Derived.Test.YtfjhlcbpogihmaaKNoteBack1
import Derived.ChangeAlike
namespace Go.Proofs.Ytfjhlcbpogihmaa.Pr
open Go.RowKit Go.Proofs.YtfjhlcbpogihmaaW.PrintWords Go.Proofs.YtfjhlcbpogihmaaW.PrintLast Go.Proofs.YtfjhlcbpogihmaaW.PrintMore
open Go.Proofs.Ytfjhlcbpogihmaa.Hnd
attribute [local go_sem] setCell_drewN_ alloc_drewN_
set_option linter.unusedVariables false
set_option linter.unusedSimpArgs false
def Wr2 (w : World) (bt : Nat) (u v : Value) (e : Ending) (w' : World) : Prop := e = .returned (.tuple #[]) ∧ ∃ n, w' = ((w.setCell ⟨bt, 0, none⟩ u).setCell ⟨bt, 1, none⟩ v).drewN n
set_option maxHeartbeats 1000000 in
theorem install1 (bt bs : Nat) (sf rs s : ByteArray) (p : Int) (off : Bool) (w : World) (hb : w.heap[bt]? = some (.cells #[.string sf, .string rs, .int .i64 p, .bool off] 34 (0, 0))) (hs : w.heap[bs]? = some (.cells #[.string s] 9 (0, 0))) :
    Calls Try.prog 81 #[.pointer (some ⟨bt, 0, none⟩), .pointer (some ⟨bs, 0, none⟩)] w (Wr2 w bt (.string s) (.string ⟨#[]⟩)) := by
  have kb0 := blk_cell hb 0
  have fb0 := blk_frozen hb 0
  have kb1 := blk_cell hb 1
  have fb1 := blk_frozen hb 1
  have kb2 := blk_cell hs 0
  clear hb hs
  go_enter Try.func81, Try.ntmps81
  go_wp2
  go_end0
  exact ⟨rfl, 0, rfl⟩
theorem blk_newAt3 {W : World} {o : Obj} (n : Nat) (hn : W.heap.size = n) : (W.alloc o).heap[n]? = some o := hn ▸ blk_new W o
def tape_Install.f (a0_0 a0_1 : ByteArray) (a0_2 : Int) (a0_3 : Bool) (a1 : ByteArray) : Option (ByteArray × ByteArray × Int × Bool × Int) :=
  if a0_0.size + a0_1.size + a1.size ≤ 4611686018427387904 then (if a0_3 = true then some (a0_0, a0_1, a0_2, true, 6) else if (a1.size : Int) > 262144 then some (a0_0, a0_1, a0_2, false, 5) else if a0_2 = 0 then some (a0_0, a0_1, 0, true, 6) else if 0 < a0_2 then some (a1, (⟨#[]⟩ : ByteArray), wrap64 (a0_2 - 1), false, 0) else some (a1, (⟨#[]⟩ : ByteArray), a0_2, false, 0)) else none
set_option maxHeartbeats 4000000 in
set_option maxRecDepth 100000 in
theorem tape_Install.calls (a0_0 a0_1 : ByteArray) (a0_2 : Int) (a0_3 : Bool) (a1 : ByteArray) (r1 r2 : ByteArray) (r3 : Int) (r4 : Bool) (r5 : Int) (w : World) (h : tape_Install.f a0_0 a0_1 a0_2 a0_3 a1 = some (r1, r2, r3, r4, r5)) :
    Calls Try.prog 50 #[.agg #[.string a0_0, .string a0_1, .int .i64 a0_2, .bool a0_3], .string a1] w fun e w' => e = .returned (.tuple #[.agg #[.string r1, .string r2, .int .i64 r3, .bool r4], .int .i64 r5]) ∧ Below w.heap.size w w' := by
  unfold tape_Install.f at h
  by_cases hs : a0_0.size + a0_1.size + a1.size ≤ 4611686018427387904
  rotate_left
  · rw [if_neg hs] at h; cases h
  rw [if_pos hs] at h
  have s0 : a0_0.size ≤ 4611686018427387904 := by omega
  have s1 : a0_1.size ≤ 4611686018427387904 := by omega
  have s2 : a1.size ≤ 4611686018427387904 := by omega
  cases a0_3 with
  | true =>
    rw [if_pos rfl] at h
    simp only [Option.some.injEq, Prod.mk.injEq] at h
    obtain ⟨rfl, rfl, rfl, rfl, rfl⟩ := h
    go_enter Try.func50, Try.ntmps50
    go_wp2
    refine bodyPost_ret (v := .tuple #[.agg #[.string (a0_0), .string (a0_1), .int .i64 (a0_2), .bool true], .int .i64 6]) (by simp [results, Try.results80, go_sem]) rfl ?_
    try simp only [go_sem]
    go_wp2
    refine bodyPost_ret (v := .tuple #[.agg #[.string (a0_0), .string (a0_1), .int .i64 (a0_2), .bool true], .int .i64 6]) (by simp [results, Try.results50, go_sem]) rfl ⟨rfl, ?_⟩
    repeat (first | exact Below.refl _ _ | refine Below.setCell ?_ (by simp) _ | refine Below.alloc ?_ (by simp <;> omega) _ | refine pw_below_drewN ?_ _ | refine below_drew ?_)
  | false =>
    rw [if_neg (by decide)] at h
    by_cases c0 : (a1.size : Int) > 262144
    · rw [if_pos c0] at h
      have c0b := decide_eq_true c0
      simp only [Option.some.injEq, Prod.mk.injEq] at h
      obtain ⟨rfl, rfl, rfl, rfl, rfl⟩ := h
      go_enter Try.func50, Try.ntmps50
      go_wp2
      refine bodyPost_ret (v := .tuple #[.agg #[.string (a0_0), .string (a0_1), .int .i64 (a0_2), .bool false], .int .i64 5]) (by simp [results, Try.results80, go_sem]) rfl ?_
      try simp only [go_sem]
      go_wp2
      refine bodyPost_ret (v := .tuple #[.agg #[.string (a0_0), .string (a0_1), .int .i64 (a0_2), .bool false], .int .i64 5]) (by simp [results, Try.results50, go_sem]) rfl ⟨rfl, ?_⟩
      repeat (first | exact Below.refl _ _ | refine Below.setCell ?_ (by simp) _ | refine Below.alloc ?_ (by simp <;> omega) _ | refine pw_below_drewN ?_ _ | refine below_drew ?_)
    rw [if_neg c0] at h
    have c0b := decide_eq_false c0
    by_cases c1 : a0_2 = 0
    · subst c1
      rw [if_pos rfl] at h
      simp only [Option.some.injEq, Prod.mk.injEq] at h
      obtain ⟨rfl, rfl, rfl, rfl, rfl⟩ := h
      go_enter Try.func50, Try.ntmps50
      go_wp2
      refine bodyPost_ret (v := .tuple #[.agg #[.string (a0_0), .string (a0_1), .int .i64 (0), .bool true], .int .i64 6]) (by simp [results, Try.results80, go_sem]) rfl ?_
      try simp only [go_sem]
      go_wp2
      refine bodyPost_ret (v := .tuple #[.agg #[.string (a0_0), .string (a0_1), .int .i64 (0), .bool true], .int .i64 6]) (by simp [results, Try.results50, go_sem]) rfl ⟨rfl, ?_⟩
      repeat (first | exact Below.refl _ _ | refine Below.setCell ?_ (by simp) _ | refine Below.alloc ?_ (by simp <;> omega) _ | refine pw_below_drewN ?_ _ | refine below_drew ?_)
    rw [if_neg c1] at h
    have c1b : (a0_2 == 0) = false := beq_eq_false_iff_ne.mpr c1
    clear c1
    by_cases c2 : 0 < a0_2
    · rw [if_pos c2] at h
      have c2b := decide_eq_true c2
      simp only [Option.some.injEq, Prod.mk.injEq] at h
      obtain ⟨rfl, rfl, rfl, rfl, rfl⟩ := h
      go_enter Try.func50, Try.ntmps50
      go_wp2_with (first | (go_at_call 81; refine Calls.mono (install1 _ _ a0_0 a0_1 a1 (wrap64 (a0_2 - 1)) false _ ?hb ?hs) ?_; (case hb => (repeat (first | exact blk_newAt3 _ (by simp) | refine blk_alloc ?_ _))); (case hs => (repeat (first | exact blk_newAt3 _ (by simp) | refine blk_alloc ?_ _))); rintro e w' ⟨rfl, n, rfl⟩) | go_in)
      refine bodyPost_ret (v := .tuple #[.agg #[.string (a1), .string ((⟨#[]⟩ : ByteArray)), .int .i64 (wrap64 (a0_2 - 1)), .bool false], .int .i64 0]) (by simp [results, Try.results80, go_sem]) rfl ?_
      try simp only [go_sem]
      go_wp2
      refine bodyPost_ret (v := .tuple #[.agg #[.string (a1), .string ((⟨#[]⟩ : ByteArray)), .int .i64 (wrap64 (a0_2 - 1)), .bool false], .int .i64 0]) (by simp [results, Try.results50, go_sem]) rfl ⟨rfl, ?_⟩
      repeat (first | exact Below.refl _ _ | refine Below.setCell ?_ (by simp) _ | refine Below.alloc ?_ (by simp <;> omega) _ | refine pw_below_drewN ?_ _ | refine below_drew ?_)
    · rw [if_neg c2] at h
      have c2b := decide_eq_false c2
      simp only [Option.some.injEq, Prod.mk.injEq] at h
      obtain ⟨rfl, rfl, rfl, rfl, rfl⟩ := h
      go_enter Try.func50, Try.ntmps50
      go_wp2_with (first | (go_at_call 81; refine Calls.mono (install1 _ _ a0_0 a0_1 a1 a0_2 false _ ?hb ?hs) ?_; (case hb => (repeat (first | exact blk_newAt3 _ (by simp) | refine blk_alloc ?_ _))); (case hs => (repeat (first | exact blk_newAt3 _ (by simp) | refine blk_alloc ?_ _))); rintro e w' ⟨rfl, n, rfl⟩) | go_in)
      refine bodyPost_ret (v := .tuple #[.agg #[.string (a1), .string ((⟨#[]⟩ : ByteArray)), .int .i64 (a0_2), .bool false], .int .i64 0]) (by simp [results, Try.results80, go_sem]) rfl ?_
      try simp only [go_sem]
      go_wp2
      refine bodyPost_ret (v := .tuple #[.agg #[.string (a1), .string ((⟨#[]⟩ : ByteArray)), .int .i64 (a0_2), .bool false], .int .i64 0]) (by simp [results, Try.results50, go_sem]) rfl ⟨rfl, ?_⟩
      repeat (first | exact Below.refl _ _ | refine Below.setCell ?_ (by simp) _ | refine Below.alloc ?_ (by simp <;> omega) _ | refine pw_below_drewN ?_ _ | refine below_drew ?_)
end Go.Proofs.Ytfjhlcbpogihmaa.Pr
