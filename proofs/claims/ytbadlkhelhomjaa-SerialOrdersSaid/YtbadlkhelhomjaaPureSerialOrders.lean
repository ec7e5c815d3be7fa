/- The pure statement of the law SerialOrders, proved. Conditions: none. -/
import Derived.Test.YtbadlkhelhomjaaDefSerialOrders
import Derived.Test.YtbadlkhelhomjaaSerL
namespace Go.Proofs.Ytbadlkhelhomjaa.Pure
open Go.RowKit Go.Proofs.Ytbadlkhelhomjaa.Pr Go.Proofs.YtbadlkhelhomjaaW.PrintWords Go.Proofs.YtbadlkhelhomjaaW.PrintLast Go.Proofs.YtbadlkhelhomjaaW.PrintMore
structure Left (n : Nat) (out : List Int) (left : List Bool) : Prop where
  len : left.length = n
  at_ : ∀ i : Nat, i < n → rdOf false left (i : Int) = takenB out (i : Int)
theorem Left.set {n : Nat} {out : List Int} {left : List Bool} (h : Left n out left) (v : Nat) (hv : v < n) : Left n (out ++ [(v : Int)]) (left.set v true) := by
  refine ⟨by rw [List.length_set]; exact h.len, fun i hi => ?_⟩
  have h2 := h.at_ i hi
  have hl := h.len
  unfold rdOf at h2 ⊢
  unfold takenB at h2 ⊢
  rw [List.any_append, ← h2]
  simp only [Int.toNat_natCast, List.getD_eq_getElem?_getD, List.getElem?_set]
  by_cases e : v = i
  · subst e
    simp [hl, hv]
  · have e2 : ¬ ((v : Int) = (i : Int)) := by omega
    simp [e, e2]
section
variable (l : List S27) (hl : l.length ≤ 64) (HA : ∀ a b : Nat, a < l.length → b < l.length → Ev (fun k => ferruleref21_Ahead.f k (rd_T27 l (a : Int)).f0.f0 (rd_T27 l (a : Int)).f0.f1 (rd_T27 l (a : Int)).f1 (rd_T27 l (a : Int)).f2 (rd_T27 l (a : Int)).f3 (rd_T27 l (a : Int)).f4 (rd_T27 l (b : Int)).f0.f0 (rd_T27 l (b : Int)).f0.f1 (rd_T27 l (b : Int)).f1 (rd_T27 l (b : Int)).f2 (rd_T27 l (b : Int)).f3 (rd_T27 l (b : Int)).f4) (aheadB (rd_T27 l (a : Int)) (rd_T27 l (b : Int))))
include hl in
theorem l2_false (out : List Int) (left : List Bool) (x6 x7 : Int) (i : Nat) (hi : i < l.length) (j : Int) (r : List Int × Int) (hno : Ev (fun k => ferruleref21_Order.l1 k l out left x6 x7 ((i + 1 : Nat) : Int)) r) : Ev (fun k => ferruleref21_Order.l2 k l out left x6 x7 (i : Int) false j) r := by
  have hwi : wrap64 ((i : Int) + 1) = ((i + 1 : Nat) : Int) := by rw [wrap64_in (by omega) (by omega)]; omega
  refine Ev.step (f := fun k => ferruleref21_Order.j4 k l out left x6 x7 (i : Int) false j false) (fun k => ?_) (Ev.step (fun k => ?_) hno)
  · rw [ferruleref21_Order.l2, ite_self]
  · rw [ferruleref21_Order.j4, if_neg (by decide), if_neg (by decide), hwi]
include hl HA in
theorem l2_true (out : List Int) (left : List Bool) (hL : Left l.length out left) (x6 x7 : Int) (i : Nat) (hi : i < l.length) (r : List Int × Int) (hyes : freeB l (takenB out) i = true → Ev (fun k => ferruleref21_Order.l1 k l out left x6 (i : Int) ((i + 1 : Nat) : Int)) r) (hno : freeB l (takenB out) i = false → Ev (fun k => ferruleref21_Order.l1 k l out left x6 x7 ((i + 1 : Nat) : Int)) r) (d : Nat) :
    ∀ j : Nat, j + d = l.length → (∀ j', j' < j → hindB l (takenB out) i j' = false) → Ev (fun k => ferruleref21_Order.l2 k l out left x6 x7 (i : Int) true (j : Int)) r := by
  have hwi : wrap64 ((i : Int) + 1) = ((i + 1 : Nat) : Int) := by rw [wrap64_in (by omega) (by omega)]; omega
  induction d with
  | zero =>
    intro j hj hb
    refine Ev.step (f := fun k => ferruleref21_Order.j4 k l out left x6 x7 (i : Int) true (j : Int) false) (fun k => ?_) (Ev.step (fun k => ?_) (hyes (free_yes (fun k hk => hb k (by omega)))))
    · rw [ferruleref21_Order.l2, if_neg (by omega)]
    · rw [ferruleref21_Order.j4, if_neg (by decide), if_pos rfl, hwi]
  | succ d ih =>
    intro j hj hb
    have hw : wrap64 ((j : Int) + 1) = ((j + 1 : Nat) : Int) := by rw [wrap64_in (by omega) (by omega)]; omega
    have hll := hL.len
    refine Ev.step (f := fun k => ferruleref21_Order.j4 k l out left x6 x7 (i : Int) true (j : Int) true) (fun k => by rw [ferruleref21_Order.l2, if_pos (by omega)]) ?_
    have hnext : hindB l (takenB out) i j = false → ∀ j', j' < j + 1 → hindB l (takenB out) i j' = false := fun h j' hj' => by
      by_cases e : j' = j
      · rw [e]; exact h
      · exact hb j' (by omega)
    by_cases hij : j = i
    · refine Ev.step (fun k => ?_) (ih (j + 1) (by omega) (hnext (by unfold hindB; rw [decide_eq_true hij]; rfl)))
      rw [ferruleref21_Order.j4, if_pos rfl, if_pos (by omega), hw]
    · have hij2 : ¬ ((j : Int) = (i : Int)) := by omega
      cases ht : takenB out (j : Int) with
      | true =>
        refine Ev.step (fun k => ?_) (ih (j + 1) (by omega) (hnext (by unfold hindB; rw [ht]; simp)))
        rw [ferruleref21_Order.j4, if_pos rfl, if_neg hij2, if_pos (by omega), if_pos (by omega), hL.at_ j (by omega), ht, if_pos rfl, hw]
      | false =>
        refine Ev.step (f := fun k => (ferruleref21_Ahead.f k (rd_T27 l (j : Int)).f0.f0 (rd_T27 l (j : Int)).f0.f1 (rd_T27 l (j : Int)).f1 (rd_T27 l (j : Int)).f2 (rd_T27 l (j : Int)).f3 (rd_T27 l (j : Int)).f4 (rd_T27 l (i : Int)).f0.f0 (rd_T27 l (i : Int)).f0.f1 (rd_T27 l (i : Int)).f1 (rd_T27 l (i : Int)).f2 (rd_T27 l (i : Int)).f3 (rd_T27 l (i : Int)).f4).bind fun t129 => ferruleref21_Order.l2 k l out left x6 x7 (i : Int) (!t129) ((j + 1 : Nat) : Int)) (fun k => ?_) ?_
        · rw [ferruleref21_Order.j4, if_pos rfl, if_neg hij2, if_pos (by omega), if_pos (by omega), hL.at_ j (by omega), ht, if_neg (by decide), if_pos (by omega), if_pos (by omega), if_pos (by omega), hw]
        · refine Ev.bind (HA j i (by omega) hi) ?_
          have hh : hindB l (takenB out) i j = aheadB (rd_T27 l (j : Int)) (rd_T27 l (i : Int)) := by unfold hindB; rw [ht, decide_eq_false hij]; simp
          cases hq : aheadB (rd_T27 l (j : Int)) (rd_T27 l (i : Int)) with
          | true => exact l2_false l hl out left x6 x7 i hi _ r (hno (free_no j (by omega) (hh.trans hq)))
          | false => exact ih (j + 1) (by omega) (hnext (hh.trans hq))
theorem l1_stop (out : List Int) (left : List Bool) (x6 v : Int) (hv : 0 ≤ v) (i : Int) (r : List Int × Int) (h : Ev (fun k => ferruleref21_Order.j2 k l out left x6 v i false) r) : Ev (fun k => ferruleref21_Order.l1 k l out left x6 v i) r := by
  refine Ev.step (fun k => ?_) h
  rw [ferruleref21_Order.l1, decide_eq_false (show ¬ v < 0 by omega), ite_self]
include hl HA in
theorem l1_loop (out : List Int) (left : List Bool) (hL : Left l.length out left) (x6 : Int) (R : Int → List Int × Int) (hJ : ∀ (v : Int) (i' : Int), (v = -1 ∨ (0 ≤ v ∧ v < l.length)) → Ev (fun k => ferruleref21_Order.j2 k l out left x6 v i' false) (R v)) (d : Nat) :
    ∀ i : Nat, i + d = l.length → Ev (fun k => ferruleref21_Order.l1 k l out left x6 (-1) (i : Int)) (R (pickN l out d i)) := by
  have hll := hL.len
  induction d with
  | zero =>
    intro i hi
    refine Ev.step (fun k => ?_) (hJ (-1) (i : Int) (.inl rfl))
    rw [ferruleref21_Order.l1, if_neg (by omega)]
  | succ d ih =>
    intro i hi
    refine Ev.step (f := fun k => ferruleref21_Order.j2 k l out left x6 (-1) (i : Int) true) (fun k => ?_) (Ev.step (f := fun k => ferruleref21_Order.l2 k l out left x6 (-1) (i : Int) (!(takenB out (i : Int))) ((0 : Nat) : Int)) (fun k => ?_) ?_)
    · rw [ferruleref21_Order.l1, if_pos (by omega)]
      rfl
    · rw [ferruleref21_Order.j2, if_pos rfl, if_pos (by omega), if_pos (by omega), hL.at_ i (by omega)]
      rfl
    · cases ht : takenB out (i : Int) with
      | true =>
        have e : pickN l out (d + 1) i = pickN l out d (i + 1) := by rw [pickN, ht]; rfl
        rw [e]
        exact l2_false l hl out left x6 (-1) i (by omega) _ _ (ih (i + 1) (by omega))
      | false =>
        refine l2_true l hl HA out left hL x6 (-1) i (by omega) _ (fun hf => ?_) (fun hf => ?_) l.length 0 (by omega) (fun j' h => by omega)
        · have e : pickN l out (d + 1) i = (i : Int) := by rw [pickN, ht, hf]; rfl
          rw [e]
          exact l1_stop l out left x6 (i : Int) (by omega) _ _ (hJ _ _ (.inr ⟨by omega, by omega⟩))
        · have e : pickN l out (d + 1) i = pickN l out d (i + 1) := by rw [pickN, ht, hf]; rfl
          rw [e]
          exact ih (i + 1) (by omega)
include hl HA in
theorem l0_loop (d : Nat) : ∀ (out : List Int) (left : List Bool), Left l.length out left → out.length + d = l.length → Ev (fun k => ferruleref21_Order.l0 k l out left (out.length : Int)) (orderN l d out) := by
  induction d with
  | zero =>
    intro out left hL ho
    refine Ev.step (f := fun _ => some (out, 0)) (fun k => ?_) (Ev.now _)
    rw [ferruleref21_Order.l0, if_neg (by omega)]
  | succ d ih =>
    intro out left hL ho
    have hll := hL.len
    have hw : wrap64 ((out.length : Int) + 1) = ((out.length + 1 : Nat) : Int) := by rw [wrap64_in (by omega) (by omega)]; omega
    refine Ev.step (f := fun k => ferruleref21_Order.l1 k l out left (out.length : Int) (-1) ((0 : Nat) : Int)) (fun k => by rw [ferruleref21_Order.l0, if_pos (by omega)]; rfl) ?_
    have h := l1_loop l hl HA out left hL (out.length : Int) (fun v => if v < 0 then ([], 9) else orderN l d (out ++ [v])) (fun v i' hv => ?_) l.length 0 (by omega)
    · exact h
    · rcases hv with rfl | ⟨h0, h1⟩
      · refine Ev.step (f := fun _ => some (([] : List Int), 9)) (fun k => ?_) (Ev.now _)
        rw [ferruleref21_Order.j2, if_neg (by decide), if_pos (by decide)]
      · obtain ⟨n, rfl⟩ : ∃ n : Nat, v = (n : Int) := ⟨v.toNat, by omega⟩
        rw [if_neg (by omega)]
        have h2 := ih (out ++ [(n : Int)]) (left.set n true) (hL.set n (by omega)) (by rw [List.length_append, List.length_singleton]; omega)
        rw [List.length_append, List.length_singleton] at h2
        refine Ev.step (fun k => ?_) h2
        rw [ferruleref21_Order.j2, if_neg (by decide), if_neg (by omega), if_pos (by omega), if_pos (by omega), if_pos (by omega), hw, Int.toNat_natCast]
include HA in
theorem order_f : Ev (fun k => ferruleref21_Order.f k l) (orderB l) := by
  unfold ferruleref21_Order.f orderB
  by_cases h : (l.length : Int) > 64
  · simp only [h, if_true]
    exact Ev.now _
  · have h2 : (0 : Int) ≤ (l.length : Int) := by omega
    have h3 : ((l.length : Int)).toNat ≤ 281474976710656 := by omega
    simp only [h, h2, h3, if_true, if_false]
    exact l0_loop l (by omega) HA l.length [] (List.replicate ((l.length : Int)).toNat false) ⟨by simp, fun i hi => by simp [rdOf, takenB, List.getD_eq_getElem?_getD, hi]⟩ (by simp)
end
theorem orderN_len (l : List S27) (d : Nat) : ∀ out : List Int, (orderN l d out).1.length ≤ out.length + d := by
  induction d with
  | zero => intro out; exact Nat.le_refl _
  | succ d ih =>
    intro out
    unfold orderN
    split
    · exact Nat.zero_le _
    · have := ih (out ++ [pickN l out l.length 0])
      rw [List.length_append, List.length_singleton] at this
      omega
theorem orderB_len (l : List S27) : (orderB l).1.length ≤ 64 := by
  unfold orderB
  split
  · exact Nat.zero_le _
  · have := orderN_len l l.length []
    rw [List.length_nil] at this
    omega
theorem ints_loop (l : List Int) (hl : l.length ≤ 64) (d : Nat) : ∀ i : Nat, i + d = l.length → Ev (fun k => ferruleref21_Ints.l0 k l l (i : Int)) true := by
  induction d with
  | zero =>
    intro i hi
    refine Ev.step (f := fun _ => some true) (fun k => ?_) (Ev.now _)
    rw [ferruleref21_Ints.l0, if_neg (by omega)]
  | succ d ih =>
    intro i hi
    have hw : wrap64 ((i : Int) + 1) = ((i + 1 : Nat) : Int) := by rw [wrap64_in (by omega) (by omega)]; omega
    refine Ev.step (fun k => ?_) (ih (i + 1) (by omega))
    rw [ferruleref21_Ints.l0, if_pos (by omega), if_pos (by omega), if_pos (by omega), if_pos rfl, hw]
theorem ints_f (l : List Int) (hl : l.length ≤ 64) : Ev (fun k => ferruleref21_Ints.f k l l) true := by
  unfold ferruleref21_Ints.f
  simp only [if_true]
  exact ints_loop l hl l.length 0 (by omega)
theorem u64_pos {x : Int} (h : (Lit.int .u64 x).wf = true) : 0 ≤ x := by
  have h : (decide (IntKind.u64.min ≤ x) && decide (x ≤ IntKind.u64.max)) = true := h
  have hm : IntKind.u64.min = 0 := by decide
  rw [hm, Bool.and_eq_true, decide_eq_true_iff] at h
  exact h.1
theorem SerialOrders : ferrulelaw21_SerialOrders.Pure := by
  intro l hl
  refine Ev.rounds ?_
  unfold ferrulelaw21_SerialOrders.f ferrulelaw21_shown.f serial_Order.f
  simp only [Option.bind_some, if_true]
  have HA : ∀ a b : Nat, a < l.length → b < l.length → Ev (fun k => ferruleref21_Ahead.f k (rd_T27 l (a : Int)).f0.f0 (rd_T27 l (a : Int)).f0.f1 (rd_T27 l (a : Int)).f1 (rd_T27 l (a : Int)).f2 (rd_T27 l (a : Int)).f3 (rd_T27 l (a : Int)).f4 (rd_T27 l (b : Int)).f0.f0 (rd_T27 l (b : Int)).f0.f1 (rd_T27 l (b : Int)).f1 (rd_T27 l (b : Int)).f2 (rd_T27 l (b : Int)).f3 (rd_T27 l (b : Int)).f4) (aheadB (rd_T27 l (a : Int)) (rd_T27 l (b : Int))) := fun a b ha hb => by
    rw [rd_at27 l a ha, rd_at27 l b hb]
    obtain ⟨_, _, h3, h4, h5⟩ := hl.2.2 _ (List.getElem_mem ha)
    obtain ⟨_, _, _, h6, h7⟩ := hl.2.2 _ (List.getElem_mem hb)
    exact ref_ahead _ _ _ _ _ _ _ _ _ _ _ _ (by omega) (by omega) (by omega) (by omega) (u64_pos h3)
  refine Ev.bind (order_f l HA) (Ev.bind (ints_f _ (orderB_len l)) ?_)
  simp only [if_true, beq_self_eq_true]
  exact Ev.now true
end Go.Proofs.Ytbadlkhelhomjaa.Pure
