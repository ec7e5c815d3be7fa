/- The pure statement of the law SerialChecks, proved. Conditions: none. -/
import Derived.Test.YtbadlkhelhomjaaDefSerialChecks
import Derived.Test.YtbadlkhelhomjaaSerL
namespace Go.Proofs.Ytbadlkhelhomjaa.Pure
open Go.RowKit Go.Proofs.Ytbadlkhelhomjaa.Pr Go.Proofs.YtbadlkhelhomjaaW.PrintWords Go.Proofs.YtbadlkhelhomjaaW.PrintLast Go.Proofs.YtbadlkhelhomjaaW.PrintMore
set_option linter.unusedSectionVars false
section
variable (l : List S27) (hl : l.length < 4611686018427387904) (o : List Int) (ho : o.length < 17592186044417) (hlo : o.length = l.length) (HA : ∀ a b : Nat, a < l.length → b < l.length → Ev (fun k => ferruleref21_Ahead.f k (rd_T27 l (a : Int)).f0.f0 (rd_T27 l (a : Int)).f0.f1 (rd_T27 l (a : Int)).f1 (rd_T27 l (a : Int)).f2 (rd_T27 l (a : Int)).f3 (rd_T27 l (a : Int)).f4 (rd_T27 l (b : Int)).f0.f0 (rd_T27 l (b : Int)).f0.f1 (rd_T27 l (b : Int)).f1 (rd_T27 l (b : Int)).f2 (rd_T27 l (b : Int)).f3 (rd_T27 l (b : Int)).f4) (aheadB (rd_T27 l (a : Int)) (rd_T27 l (b : Int))))
theorem bad_ahead {l : List S27} {o : List Int} {m j i q : Nat} (hm : m < o.length) (hj : j < m) (hi : rd o (m : Int) = (i : Int)) (hq : rd o (j : Int) = (q : Int)) (h : aheadB (rd_T27 l (i : Int)) (rd_T27 l (q : Int)) = true) : badC l o m = true := by
  unfold badC
  rw [hi]
  have : ((o.take m).any fun k => aheadB (rd_T27 l (i : Int)) (rd_T27 l k)) = true := List.any_eq_true.2 ⟨rd o (j : Int), by rw [rd_atI o j (by omega), List.mem_take_iff_getElem]; exact ⟨j, by omega, rfl⟩, by rw [hq]; exact h⟩
  rw [this]
  simp
theorem bad_taken {l : List S27} {o : List Int} {m j : Nat} (hm : m < o.length) (hj : j < m) (h : rd o (j : Int) = rd o (m : Int)) : badC l o m = true := by
  unfold badC
  have : takenB (o.take m) (rd o (m : Int)) = true := by
    unfold takenB
    exact List.any_eq_true.2 ⟨rd o (j : Int), by rw [rd_atI o j (by omega), List.mem_take_iff_getElem]; exact ⟨j, by omega, rfl⟩, by simp [h]⟩
  rw [this]
  simp
theorem bad_not {l : List S27} {o : List Int} {m i : Nat} (hm : m < o.length) (hi : rd o (m : Int) = (i : Int)) (hil : i < l.length) (h1 : ∀ j, j < m → rd o ((j : Nat) : Int) ≠ rd o (m : Int)) (h2 : ∀ j, j < m → aheadB (rd_T27 l (i : Int)) (rd_T27 l (rd o ((j : Nat) : Int))) = false) : badC l o m = false := by
  unfold badC
  rw [hi, decide_eq_false (by omega), decide_eq_false (by omega)]
  have t1 : takenB (o.take m) (i : Int) = false := by
    unfold takenB
    rw [List.any_eq_false]
    intro y hy
    obtain ⟨j, hj, rfl⟩ := List.mem_take_iff_getElem.1 hy
    have := h1 j (by omega)
    rw [rd_atI o j (by omega), hi] at this
    simpa using this
  have t2 : ((o.take m).any fun k => aheadB (rd_T27 l (i : Int)) (rd_T27 l k)) = false := by
    rw [List.any_eq_false]
    intro y hy
    obtain ⟨j, hj, rfl⟩ := List.mem_take_iff_getElem.1 hy
    have := h2 j (by omega)
    rw [rd_atI o j (by omega)] at this
    simp [this]
  rw [t1, t2]
  rfl
theorem bad_in {l : List S27} {o : List Int} {m : Nat} (h : badC l o m = false) : ∃ i : Nat, rd o (m : Int) = (i : Int) ∧ i < l.length := by
  unfold badC at h
  simp only [Bool.or_eq_false_iff, decide_eq_false_iff_not] at h
  exact ⟨(rd o (m : Int)).toNat, by omega, by omega⟩
include hl ho hlo HA in
theorem ck_in (m : Nat) (hm : m < o.length) (i : Nat) (hi : rd o (m : Int) = (i : Int)) (hil : i < l.length) (hb : ∀ m', m' < m → badC l o m' = false) (hn : badC l o m = false → Ev (fun k => ferruleref21_Check.l0 k l o ((m + 1 : Nat) : Int)) (checkB l o)) (d : Nat) :
    ∀ j : Nat, j + d = m → (∀ j', j' < j → rd o ((j' : Nat) : Int) ≠ rd o (m : Int)) → (∀ j', j' < j → aheadB (rd_T27 l (i : Int)) (rd_T27 l (rd o ((j' : Nat) : Int))) = false) → Ev (fun k => ferruleref21_Check.l1 k l o (m : Int) (j : Int)) (checkB l o) := by
  have hwm : wrap64 ((m : Int) + 1) = ((m + 1 : Nat) : Int) := by rw [wrap64_in (by omega) (by omega)]; omega
  induction d with
  | zero =>
    intro j hj h1 h2
    have e : j = m := by omega
    subst e
    refine Ev.step (fun k => ?_) (hn (bad_not hm hi hil h1 h2))
    rw [ferruleref21_Check.l1, if_neg (by omega), hwm]
  | succ d ih =>
    intro j hj h1 h2
    have hw : wrap64 ((j : Int) + 1) = ((j + 1 : Nat) : Int) := by rw [wrap64_in (by omega) (by omega)]; omega
    obtain ⟨q, hq, hql⟩ := bad_in (hb j (by omega))
    by_cases e : rd o (j : Int) = rd o (m : Int)
    · rw [check_no m hm (bad_taken hm (by omega) e)]
      refine Ev.step (f := fun _ => some false) (fun k => ?_) (Ev.now _)
      rw [ferruleref21_Check.l1, if_pos (by omega), if_pos (by omega), if_pos (by omega), if_pos (by omega), if_pos (by omega), if_pos e]
    · refine Ev.step (f := fun k => (ferruleref21_Ahead.f k (rd_T27 l (i : Int)).f0.f0 (rd_T27 l (i : Int)).f0.f1 (rd_T27 l (i : Int)).f1 (rd_T27 l (i : Int)).f2 (rd_T27 l (i : Int)).f3 (rd_T27 l (i : Int)).f4 (rd_T27 l (q : Int)).f0.f0 (rd_T27 l (q : Int)).f0.f1 (rd_T27 l (q : Int)).f1 (rd_T27 l (q : Int)).f2 (rd_T27 l (q : Int)).f3 (rd_T27 l (q : Int)).f4).bind fun t167 => (if t167 = true then (some false) else ferruleref21_Check.l1 k l o (m : Int) ((j + 1 : Nat) : Int))) (fun k => ?_) (Ev.bind (HA i q hil hql) ?_)
      · rw [ferruleref21_Check.l1, if_pos (by omega), if_pos (by omega), if_pos (by omega), if_pos (by omega), if_pos (by omega), if_neg e, hi, hq, if_pos (by omega), if_pos (by omega), if_pos (by omega), if_pos (by omega), hw]
      · cases ha : aheadB (rd_T27 l (i : Int)) (rd_T27 l (q : Int)) with
        | true =>
          rw [check_no m hm (bad_ahead hm (show j < m by omega) hi hq ha)]
          simpa using Ev.now false
        | false =>
          simp only [Bool.false_eq_true, if_false]
          refine ih (j + 1) (by omega) (fun j' hj' => ?_) (fun j' hj' => ?_)
          · by_cases ej : j' = j
            · rw [ej]; exact e
            · exact h1 j' (by omega)
          · by_cases ej : j' = j
            · rw [ej, hq]; exact ha
            · exact h2 j' (by omega)
include hl ho hlo HA in
theorem ck_out (d : Nat) : ∀ m : Nat, m + d = o.length → (∀ m', m' < m → badC l o m' = false) → Ev (fun k => ferruleref21_Check.l0 k l o (m : Int)) (checkB l o) := by
  induction d with
  | zero =>
    intro m hm hb
    rw [check_yes (fun n hn => hb n (by omega)), decide_eq_true hlo]
    refine Ev.step (f := fun _ => some true) (fun k => ?_) (Ev.now _)
    rw [ferruleref21_Check.l0, if_neg (by omega)]
  | succ d ih =>
    intro m hm hb
    have hml : m < o.length := by omega
    by_cases h0 : rd o (m : Int) < 0
    · rw [check_no m hml (by unfold badC; rw [decide_eq_true h0]; rfl)]
      refine Ev.step (f := fun k => ferruleref21_Check.j1 k l o (m : Int) true) (fun k => ?_) (Ev.step (f := fun _ => some false) (fun k => ?_) (Ev.now _))
      · rw [ferruleref21_Check.l0, if_pos (by omega), if_pos (by omega), if_pos h0]
      · rw [ferruleref21_Check.j1, if_pos rfl]
    · refine Ev.step (f := fun k => ferruleref21_Check.j1 k l o (m : Int) (decide (rd o (m : Int) ≥ (l.length : Int)))) (fun k => ?_) ?_
      · rw [ferruleref21_Check.l0, if_pos (by omega), if_pos (by omega), if_neg h0]
      · by_cases h1 : rd o (m : Int) ≥ (l.length : Int)
        · rw [check_no m hml (by unfold badC; rw [decide_eq_true h1]; simp), decide_eq_true h1]
          refine Ev.step (f := fun _ => some false) (fun k => ?_) (Ev.now _)
          rw [ferruleref21_Check.j1, if_pos rfl]
        · rw [decide_eq_false h1]
          refine Ev.step (f := fun k => ferruleref21_Check.l1 k l o (m : Int) ((0 : Nat) : Int)) (fun k => ?_) ?_
          · rw [ferruleref21_Check.j1, if_neg (by decide)]
            rfl
          · refine ck_in l hl o ho hlo HA m hml (rd o (m : Int)).toNat (by omega) (by omega) hb (fun hbm => ih (m + 1) (by omega) (fun m' hm' => ?_)) m 0 (by omega) (fun j' h => by omega) (fun j' h => by omega)
            by_cases e : m' = m
            · rw [e]; exact hbm
            · exact hb m' (by omega)
end
theorem u64_pos {x : Int} (h : (Lit.int .u64 x).wf = true) : 0 ≤ x := by
  have h : (decide (IntKind.u64.min ≤ x) && decide (x ≤ IntKind.u64.max)) = true := h
  have hm : IntKind.u64.min = 0 := by decide
  rw [hm, Bool.and_eq_true, decide_eq_true_iff] at h
  exact h.1
theorem SerialChecks : ferrulelaw21_SerialChecks.Pure := by
  intro l o hl hq
  refine Ev.rounds ?_
  have HA : ∀ a b : Nat, a < l.length → b < l.length → Ev (fun k => ferruleref21_Ahead.f k (rd_T27 l (a : Int)).f0.f0 (rd_T27 l (a : Int)).f0.f1 (rd_T27 l (a : Int)).f1 (rd_T27 l (a : Int)).f2 (rd_T27 l (a : Int)).f3 (rd_T27 l (a : Int)).f4 (rd_T27 l (b : Int)).f0.f0 (rd_T27 l (b : Int)).f0.f1 (rd_T27 l (b : Int)).f1 (rd_T27 l (b : Int)).f2 (rd_T27 l (b : Int)).f3 (rd_T27 l (b : Int)).f4) (aheadB (rd_T27 l (a : Int)) (rd_T27 l (b : Int))) := fun a b ha hb => by
    rw [rd_at27 l a ha, rd_at27 l b hb]
    obtain ⟨_, _, h3, h4, h5⟩ := hl.2.2 _ (List.getElem_mem ha)
    obtain ⟨_, _, _, h6, h7⟩ := hl.2.2 _ (List.getElem_mem hb)
    exact ref_ahead _ _ _ _ _ _ _ _ _ _ _ _ (by omega) (by omega) (by omega) (by omega) (u64_pos h3)
  have e : serial_Check.f l o = some (checkB l o) := by
    unfold serial_Check.f
    rw [if_pos ⟨by omega, by omega⟩]
  unfold ferrulelaw21_SerialChecks.f ferrulelaw21_shown.f
  rw [e]
  simp only [Option.bind_some, if_true]
  have hr : Ev (fun k => ferruleref21_Check.f k l o) (checkB l o) := by
    unfold ferruleref21_Check.f
    by_cases h : o.length = l.length
    · have h2 : (o.length : Int) = (l.length : Int) := by omega
      simp only [h2, if_true]
      exact ck_out l (by omega) o (by omega) h HA o.length 0 (by omega) (fun m h => by omega)
    · have h2 : ¬ (o.length : Int) = (l.length : Int) := by omega
      simp only [h2, if_false]
      unfold checkB
      rw [decide_eq_false h, Bool.and_false]
      exact Ev.now false
  refine Ev.bind hr ?_
  simp only [beq_self_eq_true]
  exact Ev.now true
end Go.Proofs.Ytbadlkhelhomjaa.Pure
