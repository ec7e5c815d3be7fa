/- note.may: what it computes, and that it does. Conditions: none. -/
import Derived.Test.YtfjhlcbpogihmaaGNoteBackPr0
import Derived.Test.YtfjhlcbpogihmaaKNoteBack3
import Derived.Test.YtfjhlcbpogihmaaKNoteBack1
namespace Go.Proofs.Ytfjhlcbpogihmaa.Pr
open Go.RowKit Go.Proofs.YtfjhlcbpogihmaaW.PrintWords Go.Proofs.YtfjhlcbpogihmaaW.PrintLast Go.Proofs.YtfjhlcbpogihmaaW.PrintMore
open Go.Proofs.Ytfjhlcbpogihmaa.Hnd
attribute [local go_sem] setCell_drewN_ alloc_drewN_ max2_int min2_int max_two min_two max_three min_three max_four min_four
attribute [local go_sem high] eqA39
set_option linter.unusedVariables false
set_option linter.unusedSimpArgs false
/-- Three numbers and a text within their bounds? -/
def nmIn (i t v : Int) (d : ByteArray) : Prop := i ≤ 4611686018427387903 ∧ t ≤ 4611686018427387903 ∧ v ≤ 4611686018427387903 ∧ (d.size : Int) ≤ 4096
instance (i t v : Int) (d : ByteArray) : Decidable (nmIn i t v d) := by unfold nmIn; infer_instance
def nmP1 (i t v : Int) (d : ByteArray) : Prop := 0 = i ∧ d.toList = []
def nmP2 (i t v : Int) (d : ByteArray) : Prop := 0 = v
def nmP3 (i t v : Int) (d : ByteArray) : Prop := 0 = t ∧ 0 = v ∧ d.toList = []
instance (i t v : Int) (d : ByteArray) : Decidable (nmP1 i t v d) := by unfold nmP1; infer_instance
instance (i t v : Int) (d : ByteArray) : Decidable (nmP2 i t v d) := by unfold nmP2; infer_instance
instance (i t v : Int) (d : ByteArray) : Decidable (nmP3 i t v d) := by unfold nmP3; infer_instance
def nm1 (i t v : Int) (d : ByteArray) : Bool := decide (nmP1 i t v d ∧ nmIn i t v d)
def nm2 (i t v : Int) (d : ByteArray) : Bool := decide (nmP2 i t v d ∧ nmIn i t v d)
def nm3 (i t v : Int) (d : ByteArray) : Bool := decide (nmP3 i t v d ∧ nmIn i t v d)
theorem nm_at {P : Prop} [Decidable P] {i t v : Int} {d : ByteArray} (hp : P) (h1 : i ≤ 4611686018427387903) (h2 : t ≤ 4611686018427387903) (h3 : v ≤ 4611686018427387903) : decide ((d.size : Int) ≤ 4096) = decide (P ∧ nmIn i t v d) :=
  decide_eq_decide.2 ⟨fun h => ⟨hp, h1, h2, h3, h⟩, fun h => h.2.2.2.2⟩
set_option maxHeartbeats 2000000 in
set_option maxRecDepth 100000 in
theorem nm_1 (i t v : Int) (d : ByteArray) (w : World) :
    Calls Try.prog 45 #[.agg #[.int .i64 1, .int .u64 i, .int .u64 t, .int .u64 v, .string d]] w fun e w' => e = .returned (.bool (nm1 i t v d)) ∧ Below w.heap.size w w' := by
  have hu39 := Try.underlying39
  go_enter Try.func45, Try.ntmps45
  go_wp2_with fail
  all_goals go_ret
  all_goals refine ⟨?_, below_alloc (below_alloc (Below.refl _ _) _) _⟩
  all_goals refine congrArg (fun b => Ending.returned (Value.bool b)) (?_ : (_ : Bool) = _)
  all_goals first
    | exact nm_at (by unfold nmP1; first | assumption | omega | simp_all) (by omega) (by omega) (by omega)
    | exact (decide_eq_false (fun hh => by unfold nmP1 nmIn at hh; first | omega | (simp_all; done) | (obtain ⟨⟨hA, hB, hC⟩, hD⟩ := hh; first | omega | (rename_i hX; exact hX hA hB hC) | (rename_i hX; exact hX hC) | (rename_i hX; exact hX ⟨hA, hB, hC⟩)))).symm
set_option maxHeartbeats 2000000 in
set_option maxRecDepth 100000 in
theorem nm_2 (i t v : Int) (d : ByteArray) (w : World) :
    Calls Try.prog 45 #[.agg #[.int .i64 2, .int .u64 i, .int .u64 t, .int .u64 v, .string d]] w fun e w' => e = .returned (.bool (nm2 i t v d)) ∧ Below w.heap.size w w' := by
  have hu39 := Try.underlying39
  go_enter Try.func45, Try.ntmps45
  go_wp2_with fail
  all_goals go_ret
  all_goals refine ⟨?_, below_alloc (below_alloc (Below.refl _ _) _) _⟩
  all_goals refine congrArg (fun b => Ending.returned (Value.bool b)) (?_ : (_ : Bool) = _)
  all_goals first
    | exact nm_at (by unfold nmP2; first | assumption | omega | simp_all) (by omega) (by omega) (by omega)
    | exact (decide_eq_false (fun hh => by unfold nmP2 nmIn at hh; first | omega | (simp_all; done) | (obtain ⟨⟨hA, hB, hC⟩, hD⟩ := hh; first | omega | (rename_i hX; exact hX hA hB hC) | (rename_i hX; exact hX hC) | (rename_i hX; exact hX ⟨hA, hB, hC⟩)))).symm
set_option maxHeartbeats 2000000 in
set_option maxRecDepth 100000 in
theorem nm_3 (i t v : Int) (d : ByteArray) (w : World) :
    Calls Try.prog 45 #[.agg #[.int .i64 3, .int .u64 i, .int .u64 t, .int .u64 v, .string d]] w fun e w' => e = .returned (.bool (nm3 i t v d)) ∧ Below w.heap.size w w' := by
  have hu39 := Try.underlying39
  go_enter Try.func45, Try.ntmps45
  go_wp2_with fail
  all_goals go_ret
  all_goals refine ⟨?_, below_alloc (below_alloc (Below.refl _ _) _) _⟩
  all_goals refine congrArg (fun b => Ending.returned (Value.bool b)) (?_ : (_ : Bool) = _)
  all_goals first
    | exact nm_at (by unfold nmP3; first | assumption | omega | simp_all) (by omega) (by omega) (by omega)
    | exact (decide_eq_false (fun hh => by unfold nmP3 nmIn at hh; first | omega | (simp_all; done) | (obtain ⟨⟨hA, hB, hC⟩, hD⟩ := hh; first | omega | (rename_i hX; exact hX hA hB hC) | (rename_i hX; exact hX hC) | (rename_i hX; exact hX ⟨hA, hB, hC⟩)))).symm
set_option maxHeartbeats 2000000 in
set_option maxRecDepth 100000 in
theorem nm_4 (i t v : Int) (d : ByteArray) (w : World) :
    Calls Try.prog 45 #[.agg #[.int .i64 4, .int .u64 i, .int .u64 t, .int .u64 v, .string d]] w fun e w' => e = .returned (.bool (nm2 i t v d)) ∧ Below w.heap.size w w' := by
  have hu39 := Try.underlying39
  go_enter Try.func45, Try.ntmps45
  go_wp2_with fail
  all_goals go_ret
  all_goals refine ⟨?_, below_alloc (below_alloc (Below.refl _ _) _) _⟩
  all_goals refine congrArg (fun b => Ending.returned (Value.bool b)) (?_ : (_ : Bool) = _)
  all_goals first
    | exact nm_at (by unfold nmP2; first | assumption | omega | simp_all) (by omega) (by omega) (by omega)
    | exact (decide_eq_false (fun hh => by unfold nmP2 nmIn at hh; first | omega | (simp_all; done) | (obtain ⟨⟨hA, hB, hC⟩, hD⟩ := hh; first | omega | (rename_i hX; exact hX hA hB hC) | (rename_i hX; exact hX hC) | (rename_i hX; exact hX ⟨hA, hB, hC⟩)))).symm
set_option maxHeartbeats 2000000 in
set_option maxRecDepth 100000 in
theorem nm_0 (kd : Int) (h1 : (kd == 1) = false) (h2 : (kd == 2) = false) (h3 : (kd == 3) = false) (h4 : (kd == 4) = false) (i t v : Int) (d : ByteArray) (w : World) :
    Calls Try.prog 45 #[.agg #[.int .i64 kd, .int .u64 i, .int .u64 t, .int .u64 v, .string d]] w fun e w' => e = .returned (.bool false) ∧ Below w.heap.size w w' := by
  have hu39 := Try.underlying39
  go_enter Try.func45, Try.ntmps45
  go_wp2_with fail
  all_goals go_ret
  all_goals exact ⟨rfl, below_alloc (below_alloc (Below.refl _ _) _) _⟩
/-- May a note be? -/
def nmayB (kd i t v : Int) (d : ByteArray) : Bool := if kd = 1 then nm1 i t v d else if kd = 2 then nm2 i t v d else if kd = 3 then nm3 i t v d else if kd = 4 then nm2 i t v d else false
def note_may.f (k : Nat) (a0_0 : Int) (a0_1 : Int) (a0_2 : Int) (a0_3 : Int) (a0_4 : ByteArray) : Option Bool := some (nmayB a0_0 a0_1 a0_2 a0_3 a0_4)
theorem note_may.calls (k : Nat) (a0_0 : Int) (a0_1 : Int) (a0_2 : Int) (a0_3 : Int) (a0_4 : ByteArray) (r : Bool) (w : World) (h : note_may.f k a0_0 a0_1 a0_2 a0_3 a0_4 = some r) :
    Calls Try.prog 45 #[.agg #[.int .i64 a0_0, .int .u64 a0_1, .int .u64 a0_2, .int .u64 a0_3, .string a0_4]] w fun e w' => e = .returned (.bool r) ∧ Below w.heap.size w w' := by
  obtain rfl := Option.some.inj h
  unfold nmayB
  by_cases h1 : a0_0 = 1
  · subst h1; exact nm_1 a0_1 a0_2 a0_3 a0_4 w
  rw [if_neg h1]
  by_cases h2 : a0_0 = 2
  · subst h2; exact nm_2 a0_1 a0_2 a0_3 a0_4 w
  rw [if_neg h2]
  by_cases h3 : a0_0 = 3
  · subst h3; exact nm_3 a0_1 a0_2 a0_3 a0_4 w
  rw [if_neg h3]
  by_cases h4 : a0_0 = 4
  · subst h4; exact nm_4 a0_1 a0_2 a0_3 a0_4 w
  rw [if_neg h4]
  exact nm_0 a0_0 (beq_eq_false_iff_ne.2 h1) (beq_eq_false_iff_ne.2 h2) (beq_eq_false_iff_ne.2 h3) (beq_eq_false_iff_ne.2 h4) a0_1 a0_2 a0_3 a0_4 w
end Go.Proofs.Ytfjhlcbpogihmaa.Pr
