/- post.names, post.May: what they compute, and that they do. Conditions: none. -/
import Derived.Test.YtfjhlcbpogihmaaPr0
import Derived.Test.YtfjhlcbpogihmaaHandFindE
import Derived.BigQuiet
import Derived.MapKept
import Derived.Deep.RegionHeld3
namespace Go.Proofs.Ytfjhlcbpogihmaa.Pr
open Go.RowKit Go.Proofs.YtfjhlcbpogihmaaW.PrintWords Go.Proofs.YtfjhlcbpogihmaaW.PrintLast Go.Proofs.YtfjhlcbpogihmaaW.PrintMore
open Go.Proofs.Ytfjhlcbpogihmaa.Hnd
attribute [local go_sem] setCell_drewN_ alloc_drewN_ max2_int min2_int max_two min_two max_three min_three max_four min_four
set_option linter.unusedVariables false
set_option linter.unusedSimpArgs false
def five (a b c d e : Bool) : Value := .agg #[.bool a, .bool b, .bool c, .bool d, .bool e]
def nmEs : Array MapEntry := #[⟨.int .i64 1, five true false false false false, 0⟩, ⟨.int .i64 3, five true false false false false, 1⟩, ⟨.int .i64 2, five false false true false false, 2⟩, ⟨.int .i64 4, five false false true false false, 3⟩, ⟨.int .i64 5, five true true false true false, 4⟩, ⟨.int .i64 6, five true false false false true, 5⟩, ⟨.int .i64 7, five true false true false false, 6⟩]
theorem mk_run (w : World) : (Instr.makeMap 109 none).run Try.prog w = .ok (.map (some w.heap.size)) (w.alloc (.map #[] 0)) := by
  simp [Instr.makeMap, go_sem]
theorem ck_int (b : Bool) (k : Int) (w : World) : (Instr.checkKey b 10000 3 (.int .i64 k)).run Try.prog w = .ok () w := by
  rw [show (10000 : Nat) = 9999 + 1 from rfl]
  unfold Instr.checkKey
  simp [go_sem, Try.underlying3]
theorem alloc_over (w : World) (o o' : Obj) : ({ w.alloc o with heap := (w.alloc o).heap.setIfInBounds w.heap.size o' } : World) = w.alloc o' := by
  have e : (w.heap.push o).setIfInBounds w.heap.size o' = w.heap.push o' := by
    apply Array.ext
    · simp
    · intro i h1 h2
      rw [Array.getElem_setIfInBounds]
      · by_cases h : w.heap.size = i
        · subst h; simp
        · rw [if_neg h]
          simp only [Array.size_push] at h2
          rw [Array.getElem_push_lt (by omega), Array.getElem_push_lt (by omega)]
      · simpa using h1
  show ({ (w.alloc o) with heap := (w.heap.push o).setIfInBounds w.heap.size o' } : World) = _
  rw [e]
  rfl
theorem upd_run (W : World) (b : Nat) (es : Array MapEntry) (c : Nat) (k : Int) (v : Value) (hb : W.heap[b]? = some (.map es c)) (hf : Instr.findNow (.int .i64) (.int .i64 k) es.toList 0 = some none) :
    (Instr.mapUpdate 109 (.map (some b)) (.int .i64 k) v).run Try.prog W = .ok () { W with heap := W.heap.setIfInBounds b (.map (es.push ⟨.int .i64 k, v, c⟩) (c + 1)) } := by
  have hg : (getObj b).run Try.prog W = .ok (.map es c) W := by simp [getObj, Sem.run, hb]
  have hs : ∀ o, (setObj b o).run Try.prog W = .ok () { W with heap := W.heap.setIfInBounds b o } := fun o => by simp [setObj, Sem.run, hb]
  unfold Instr.mapUpdate Instr.findKey
  have hu : (underlying 109).run Try.prog W = .ok (.map 3 107) W := by simp [go_sem, Try.underlying109]
  have hu3 : (underlying 3).run Try.prog W = .ok (.int .i64) W := by simp [go_sem, Try.underlying3]
  simp only [Sem.run_bind, hg, Result.andThen, ck_int, hu, hu3, hf, hs, Sem.run_pure]
theorem ins_run (w : World) (es : Array MapEntry) (c : Nat) (k : Int) (v : Value) (hf : Instr.findNow (.int .i64) (.int .i64 k) es.toList 0 = some none) :
    (Instr.mapUpdate 109 (.map (some w.heap.size)) (.int .i64 k) v).run Try.prog (w.alloc (.map es c)) = .ok () (w.alloc (.map (es.push ⟨.int .i64 k, v, c⟩) (c + 1))) := by
  rw [upd_run _ _ es c k v (heap_alloc_new w (.map es c)) hf, alloc_over]
set_option maxHeartbeats 1000000 in
set_option maxRecDepth 100000 in
theorem post_names_calls (w : World) : Calls Try.prog 64 #[] w fun e w' => e = .returned (.map (some w.heap.size)) ∧ w' = w.alloc (.map nmEs 7) := by
  have i0_ := mk_run w
  have i0 := ins_run w (#[] : Array MapEntry) 0 1 (.agg #[.bool true, .bool false, .bool false, .bool false, .bool false]) rfl
  have i1 := ins_run w (#[⟨.int .i64 1, five true false false false false, 0⟩] : Array MapEntry) 1 3 (.agg #[.bool true, .bool false, .bool false, .bool false, .bool false]) rfl
  have i2 := ins_run w (#[⟨.int .i64 1, five true false false false false, 0⟩, ⟨.int .i64 3, five true false false false false, 1⟩] : Array MapEntry) 2 2 (.agg #[.bool false, .bool false, .bool true, .bool false, .bool false]) rfl
  have i3 := ins_run w (#[⟨.int .i64 1, five true false false false false, 0⟩, ⟨.int .i64 3, five true false false false false, 1⟩, ⟨.int .i64 2, five false false true false false, 2⟩] : Array MapEntry) 3 4 (.agg #[.bool false, .bool false, .bool true, .bool false, .bool false]) rfl
  have i4 := ins_run w (#[⟨.int .i64 1, five true false false false false, 0⟩, ⟨.int .i64 3, five true false false false false, 1⟩, ⟨.int .i64 2, five false false true false false, 2⟩, ⟨.int .i64 4, five false false true false false, 3⟩] : Array MapEntry) 4 5 (.agg #[.bool true, .bool true, .bool false, .bool true, .bool false]) rfl
  have i5 := ins_run w (#[⟨.int .i64 1, five true false false false false, 0⟩, ⟨.int .i64 3, five true false false false false, 1⟩, ⟨.int .i64 2, five false false true false false, 2⟩, ⟨.int .i64 4, five false false true false false, 3⟩, ⟨.int .i64 5, five true true false true false, 4⟩] : Array MapEntry) 5 6 (.agg #[.bool true, .bool false, .bool false, .bool false, .bool true]) rfl
  have i6 := ins_run w (#[⟨.int .i64 1, five true false false false false, 0⟩, ⟨.int .i64 3, five true false false false false, 1⟩, ⟨.int .i64 2, five false false true false false, 2⟩, ⟨.int .i64 4, five false false true false false, 3⟩, ⟨.int .i64 5, five true true false true false, 4⟩, ⟨.int .i64 6, five true false false false true, 5⟩] : Array MapEntry) 6 7 (.agg #[.bool true, .bool false, .bool true, .bool false, .bool false]) rfl
  simp only [List.push_toArray, List.nil_append, List.cons_append, five] at i0 i1 i2 i3 i4 i5 i6
  go_enter Try.func64, Try.ntmps64
  go_wp2
  go_ret
  exact ⟨rfl, rfl⟩
def hI (k : Int) : Bool := k == 1 || (k == 3 || (k == 5 || (k == 6 || k == 7)))
def hC (k : Int) : Bool := k == 5
def hT (k : Int) : Bool := k == 2 || (k == 4 || k == 7)
def hE (k : Int) : Bool := k == 5
def hS (k : Int) : Bool := k == 6
def isK (k : Int) : Bool := decide (1 ≤ k) && decide (k ≤ 7)
def nmAt (k : Int) : Option (Option (Nat × Value)) := Instr.findNow (.int .i64) (.int .i64 k) nmEs.toList 0
theorem nm_at (k : Int) : (match nmAt k with | some (some (_, v)) => (v, true) | _ => (five false false false false false, false)) = (five (hI k) (hC k) (hT k) (hE k) (hS k), isK k) ∧ ∃ r, nmAt k = some r := by
  by_cases h1 : k = 1
  · subst h1; exact ⟨rfl, _, rfl⟩
  by_cases h2 : k = 2
  · subst h2; exact ⟨rfl, _, rfl⟩
  by_cases h3 : k = 3
  · subst h3; exact ⟨rfl, _, rfl⟩
  by_cases h4 : k = 4
  · subst h4; exact ⟨rfl, _, rfl⟩
  by_cases h5 : k = 5
  · subst h5; exact ⟨rfl, _, rfl⟩
  by_cases h6 : k = 6
  · subst h6; exact ⟨rfl, _, rfl⟩
  by_cases h7 : k = 7
  · subst h7; exact ⟨rfl, _, rfl⟩
  have b1 : (k == 1) = false := beq_eq_false_iff_ne.mpr h1
  have b2 : (k == 2) = false := beq_eq_false_iff_ne.mpr h2
  have b3 : (k == 3) = false := beq_eq_false_iff_ne.mpr h3
  have b4 : (k == 4) = false := beq_eq_false_iff_ne.mpr h4
  have b5 : (k == 5) = false := beq_eq_false_iff_ne.mpr h5
  have b6 : (k == 6) = false := beq_eq_false_iff_ne.mpr h6
  have b7 : (k == 7) = false := beq_eq_false_iff_ne.mpr h7
  have e : nmAt k = some none := by
    unfold nmAt nmEs
    simp [Instr.findNow, Instr.sameNow, b1, b2, b3, b4, b5, b6, b7]
  have g : isK k = false := by
    unfold isK
    rw [Bool.and_eq_false_iff, decide_eq_false_iff_not, decide_eq_false_iff_not]
    omega
  refine ⟨?_, _, e⟩
  rw [e, g]
  simp [hI, hC, hT, hE, hS, b1, b2, b3, b4, b5, b6, b7]
theorem look_run (W : World) (b : Nat) (k : Int) (hb : W.heap[b]? = some (.map nmEs 7)) : (Instr.lookup 109 (.map (some b)) (.int .i64 k) true).run Try.prog W = .ok (.tuple #[.agg #[.bool (hI k), .bool (hC k), .bool (hT k), .bool (hE k), .bool (hS k)], .bool (isK k)]) W := by
  have hg : (getObj b).run Try.prog W = .ok (.map nmEs 7) W := by simp [getObj, Sem.run, hb]
  have hu : (underlying 109).run Try.prog W = .ok (.map 3 107) W := by simp [go_sem, Try.underlying109]
  have hu3 : (underlying 3).run Try.prog W = .ok (.int .i64) W := by simp [go_sem, Try.underlying3]
  have hz : (zeroValue 107).run Try.prog W = .ok (five false false false false false) W := by kernel_rfl
  obtain ⟨h1, r, h2⟩ := nm_at k
  have h3 : Instr.findNow (.int .i64) (.int .i64 k) nmEs.toList 0 = some r := h2
  rw [h2] at h1
  unfold Instr.lookup Instr.findKey
  simp only [Sem.run_bind, hg, Result.andThen, ck_int, hu, hu3, h3, Sem.run_pure, if_true]
  cases r with
  | none =>
    simp only [Prod.mk.injEq] at h1
    simp only [Sem.run_bind, hz, Result.andThen, Sem.run_pure]
    rw [h1.1, ← h1.2]
    rfl
  | some p =>
    obtain ⟨q, v⟩ := p
    simp only [Prod.mk.injEq] at h1
    simp only [Sem.run_pure]
    rw [h1.1, ← h1.2]
    rfl
end Go.Proofs.Ytfjhlcbpogihmaa.Pr
