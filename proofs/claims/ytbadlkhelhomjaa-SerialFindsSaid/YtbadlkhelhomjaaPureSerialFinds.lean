/- The pure statement of the law SerialFinds, proved. Conditions: none. -/
import Derived.Test.YtbadlkhelhomjaaDefSerialFinds
import Derived.Test.YtbadlkhelhomjaaSerL
namespace Go.Proofs.Ytbadlkhelhomjaa.Pure
open Go.RowKit Go.Proofs.Ytbadlkhelhomjaa.Pr Go.Proofs.YtbadlkhelhomjaaW.PrintWords Go.Proofs.YtbadlkhelhomjaaW.PrintLast Go.Proofs.YtbadlkhelhomjaaW.PrintMore
theorem pick_spec (l : List S27) (out : List Int) (d : Nat) : ∀ i : Nat, ¬ pickN l out d i < 0 → ∃ j : Nat, pickN l out d i = (j : Int) ∧ j < i + d ∧ takenB out (j : Int) = false ∧ freeB l (takenB out) j = true := by
  induction d with
  | zero =>
    intro i h
    exact absurd (show (-1 : Int) < 0 by omega) h
  | succ d ih =>
    intro i h
    unfold pickN at h ⊢
    by_cases hc : (!(takenB out (i : Int)) && freeB l (takenB out) i) = true
    · rw [if_pos hc]
      rw [Bool.and_eq_true, Bool.not_eq_true'] at hc
      exact ⟨i, rfl, by omega, hc.1, hc.2⟩
    · rw [if_neg hc] at h ⊢
      obtain ⟨j, h1, h2, h3⟩ := ih (i + 1) h
      exact ⟨j, h1, by omega, h3⟩
def OkA (l : List S27) (a : List Int) (lo : Nat) : Prop := ∀ m : Nat, lo ≤ m → ∀ h : m < a.length, ∃ j : Nat, a[m] = (j : Int) ∧ j < l.length ∧ takenB (a.take m) (j : Int) = false ∧ freeB l (takenB (a.take m)) j = true
theorem order_spec (l : List S27) (d : Nat) : ∀ out : List Int, (orderN l d out).2 = 0 → (orderN l d out).1.length = out.length + d ∧ (∃ t, (orderN l d out).1 = out ++ t) ∧ OkA l (orderN l d out).1 out.length := by
  induction d with
  | zero =>
    intro out _
    exact ⟨rfl, ⟨[], by simp [orderN]⟩, fun m h1 h2 => absurd h2 (by show ¬ m < out.length; omega)⟩
  | succ d ih =>
    intro out h
    unfold orderN at h ⊢
    by_cases hp : pickN l out l.length 0 < 0
    · rw [if_pos hp] at h
      exact absurd h (by decide)
    · rw [if_neg hp] at h ⊢
      obtain ⟨j, h1, h2, h3, h4⟩ := pick_spec l out l.length 0 hp
      rw [h1] at h ⊢
      obtain ⟨g1, ⟨t, g2⟩, g3⟩ := ih (out ++ [(j : Int)]) h
      rw [List.length_append, List.length_singleton] at g1 g3
      refine ⟨by omega, ⟨[(j : Int)] ++ t, by rw [g2, List.append_assoc]⟩, fun m hm hlt => ?_⟩
      by_cases e : m = out.length
      · subst e
        refine ⟨j, ?_, by omega, ?_, ?_⟩
        · simp [g2]
        · rw [g2]; simpa using h3
        · rw [g2]; simpa using h4
      · exact g3 m (by omega) hlt
theorem taken_false {out : List Int} {x : Int} (h : takenB out x = false) : ∀ y ∈ out, y ≠ x := by
  unfold takenB at h
  rw [List.any_eq_false] at h
  intro y hy e
  exact h y hy (by simp [e])
theorem ok_ne {l : List S27} {a : List Int} (h : OkA l a 0) (m m' : Nat) (hm : m < a.length) (hlt : m' < m) : a[m']'(by omega) ≠ a[m] := by
  obtain ⟨j, h1, _, h3, _⟩ := h m (by omega) hm
  rw [h1]
  refine taken_false h3 _ ?_
  rw [List.mem_take_iff_getElem]
  exact ⟨m', by omega, rfl⟩
theorem cnt_step (p q : Nat → Bool) (j : Nat) (hq : ∀ i, q i = (p i || decide (j = i))) (hj : p j = false) (n : Nat) : (List.range n).countP q = (List.range n).countP p + if j < n then 1 else 0 := by
  induction n with
  | zero => simp
  | succ n ih =>
    rw [List.range_succ, List.countP_append, List.countP_append, ih, List.countP_singleton, List.countP_singleton, hq n]
    by_cases e : j = n
    · subst e
      simp [hj]
    · have h1 : decide (j = n) = false := decide_eq_false e
      rw [h1, Bool.or_false]
      by_cases h2 : j < n
      · have h3 : j < n + 1 := by omega
        simp only [h2, h3, if_true]
        omega
      · have h3 : ¬ j < n + 1 := by omega
        simp only [h2, h3, if_false]
        omega
theorem ok_cnt {l : List S27} {a : List Int} (h : OkA l a 0) (m : Nat) : m ≤ a.length → (List.range l.length).countP (fun i => takenB (a.take m) ((i : Nat) : Int)) = m := by
  induction m with
  | zero =>
    intro _
    simp [takenB]
  | succ m ih =>
    intro hm
    obtain ⟨j, h1, h2, h3, _⟩ := h m (by omega) (by omega)
    have := cnt_step (fun i => takenB (a.take m) ((i : Nat) : Int)) (fun i => takenB (a.take (m + 1)) ((i : Nat) : Int)) j (fun i => by
      rw [List.take_succ_eq_append_getElem (by omega), h1]
      unfold takenB
      rw [List.any_append]
      by_cases e : j = i
      · simp [e]
      · have e2 : ¬ ((j : Int) = (i : Int)) := by omega
        simp [e, e2]) h3 l.length
    rw [this, ih (by omega), if_pos h2]
theorem ok_all {l : List S27} {a : List Int} (h : OkA l a 0) (hl : a.length = l.length) (k : Nat) (hk : k < l.length) : ∃ (m : Nat) (hm : m < a.length), a[m] = (k : Int) := by
  have hc := ok_cnt h a.length (Nat.le_refl _)
  rw [List.take_length] at hc
  have := (List.countP_eq_length (p := fun i : Nat => takenB a (i : Int)) (l := List.range l.length)).1 (by rw [hc, List.length_range, hl]) k (List.mem_range.2 hk)
  unfold takenB at this
  obtain ⟨y, hy, he⟩ := List.any_eq_true.1 this
  obtain ⟨m, hm, rfl⟩ := List.getElem_of_mem hy
  exact ⟨m, hm, by simpa using he⟩
theorem bad_ahead {l : List S27} {o : List Int} {m j i q : Nat} (hm : m < o.length) (hj : j < m) (hi : rd o (m : Int) = (i : Int)) (hq : rd o (j : Int) = (q : Int)) (h : aheadB (rd_T27 l (i : Int)) (rd_T27 l (q : Int)) = true) : badC l o m = true := by
  unfold badC
  rw [hi]
  have : ((o.take m).any fun k => aheadB (rd_T27 l (i : Int)) (rd_T27 l k)) = true := List.any_eq_true.2 ⟨rd o (j : Int), by rw [rd_atI o j (by omega), List.mem_take_iff_getElem]; exact ⟨j, by omega, rfl⟩, by rw [hq]; exact h⟩
  rw [this]
  simp
theorem bad_taken {l : List S27} {o : List Int} {m j : Nat} (hm : m < o.length) (hj : j < m) (h : rd o (j : Int) = rd o (m : Int)) : badC l o m = true := by
  unfold badC
  have : takenB (o.take m) (rd o (m : Int)) = true := by
    unfold takenB
    exact List.any_eq_true.2 ⟨rd o (j : Int), by rw [rd_atI o j (by omega), List.mem_take_iff_getElem]; exact ⟨j, by omega, rfl⟩, by simp [h]⟩
  rw [this]
  simp
theorem bad_not {l : List S27} {o : List Int} {m i : Nat} (hm : m < o.length) (hi : rd o (m : Int) = (i : Int)) (hil : i < l.length) (h1 : ∀ j, j < m → rd o ((j : Nat) : Int) ≠ rd o (m : Int)) (h2 : ∀ j, j < m → aheadB (rd_T27 l (i : Int)) (rd_T27 l (rd o ((j : Nat) : Int))) = false) : badC l o m = false := by
  unfold badC
  rw [hi, decide_eq_false (by omega), decide_eq_false (by omega)]
  have t1 : takenB (o.take m) (i : Int) = false := by
    unfold takenB
    rw [List.any_eq_false]
    intro y hy
    obtain ⟨j, hj, rfl⟩ := List.mem_take_iff_getElem.1 hy
    have := h1 j (by omega)
    rw [rd_atI o j (by omega), hi] at this
    simpa using this
  have t2 : ((o.take m).any fun k => aheadB (rd_T27 l (i : Int)) (rd_T27 l k)) = false := by
    rw [List.any_eq_false]
    intro y hy
    obtain ⟨j, hj, rfl⟩ := List.mem_take_iff_getElem.1 hy
    have := h2 j (by omega)
    rw [rd_atI o j (by omega)] at this
    simp [this]
  rw [t1, t2]
  rfl
theorem bad_in {l : List S27} {o : List Int} {m : Nat} (h : badC l o m = false) : ∃ i : Nat, rd o (m : Int) = (i : Int) ∧ i < l.length := by
  unfold badC at h
  simp only [Bool.or_eq_false_iff, decide_eq_false_iff_not] at h
  exact ⟨(rd o (m : Int)).toNat, by omega, by omega⟩
theorem free_at {l : List S27} {S : Int → Bool} {i k : Nat} (h : freeB l S i = true) (hk : k < l.length) : hindB l S i k = false := by
  cases hh : hindB l S i k with
  | false => rfl
  | true =>
    rw [free_no k hk hh] at h
    cases h
theorem ok_bad {l : List S27} {a : List Int} (h : OkA l a 0) (m : Nat) (hm : m < a.length) : badC l a m = false := by
  obtain ⟨j, h1, h2, h3, _⟩ := h m (by omega) hm
  have hi : rd a (m : Int) = (j : Int) := by rw [rd_atI a m hm, h1]
  refine bad_not hm hi h2 (fun j' hj' => ?_) (fun j' hj' => ?_)
  · rw [rd_atI a j' (by omega), rd_atI a m hm]
    exact ok_ne h m j' hm hj'
  · obtain ⟨q, g1, g2, g3, g4⟩ := h j' (by omega) (by omega)
    rw [rd_atI a j' (by omega), g1]
    have hh := free_at g4 h2
    have hne := ok_ne h m j' hm hj'
    rw [g1, h1] at hne
    have ht : takenB (a.take j') (j : Int) = false := by
      unfold takenB
      rw [List.any_eq_false]
      intro y hy
      obtain ⟨m2, hm2, rfl⟩ := List.mem_take_iff_getElem.1 hy
      have := ok_ne h m m2 hm (by omega)
      rw [h1] at this
      simpa using this
    unfold hindB at hh
    rw [ht, decide_eq_false (show ¬ j = q by omega)] at hh
    simpa using hh
structure OkB (l : List S27) (o : List Int) : Prop where
  at_ : ∀ m : Nat, ∀ h : m < o.length, ∃ j : Nat, o[m] = (j : Int) ∧ j < l.length ∧ takenB (o.take m) (j : Int) = false
theorem okB_cnt {l : List S27} {a : List Int} (h : OkB l a) (m : Nat) : m ≤ a.length → (List.range l.length).countP (fun i => takenB (a.take m) ((i : Nat) : Int)) = m := by
  induction m with
  | zero =>
    intro _
    simp [takenB]
  | succ m ih =>
    intro hm
    obtain ⟨j, h1, h2, h3⟩ := h.at_ m (by omega)
    have := cnt_step (fun i => takenB (a.take m) ((i : Nat) : Int)) (fun i => takenB (a.take (m + 1)) ((i : Nat) : Int)) j (fun i => by
      rw [List.take_succ_eq_append_getElem (by omega), h1]
      unfold takenB
      rw [List.any_append]
      by_cases e : j = i
      · simp [e]
      · have e2 : ¬ ((j : Int) = (i : Int)) := by omega
        simp [e, e2]) h3 l.length
    rw [this, ih (by omega), if_pos h2]
theorem okB_all {l : List S27} {a : List Int} (h : OkB l a) (hl : a.length = l.length) (k : Nat) (hk : k < l.length) : ∃ (m : Nat) (hm : m < a.length), a[m] = (k : Int) := by
  have hc := okB_cnt h a.length (Nat.le_refl _)
  rw [List.take_length] at hc
  have := (List.countP_eq_length (p := fun i : Nat => takenB a (i : Int)) (l := List.range l.length)).1 (by rw [hc, List.length_range, hl]) k (List.mem_range.2 hk)
  unfold takenB at this
  obtain ⟨y, hy, he⟩ := List.any_eq_true.1 this
  obtain ⟨m, hm, rfl⟩ := List.getElem_of_mem hy
  exact ⟨m, hm, by simpa using he⟩
theorem okB_of {l : List S27} {o : List Int} (h : ∀ m, m < o.length → badC l o m = false) : OkB l o := ⟨fun m hm => by
  obtain ⟨j, h1, h2⟩ := bad_in (h m hm)
  have hb := h m hm
  unfold badC at hb
  simp only [Bool.or_eq_false_iff] at hb
  exact ⟨j, by rw [← rd_atI o m hm]; exact h1, h2, by rw [← h1]; exact hb.2.2.1⟩⟩
theorem first_of (p : Nat → Bool) (n : Nat) (h : ∃ m, m < n ∧ p m = true) : ∃ m, m < n ∧ p m = true ∧ ∀ m', m' < m → p m' = false := by
  induction n with
  | zero => obtain ⟨m, hm, _⟩ := h; omega
  | succ n ih =>
    by_cases h2 : ∃ m, m < n ∧ p m = true
    · obtain ⟨m, a, b, c⟩ := ih h2
      exact ⟨m, by omega, b, c⟩
    · obtain ⟨m, hm, hp⟩ := h
      have e : m = n := by
        by_cases e : m = n
        · exact e
        · exact absurd ⟨m, by omega, hp⟩ h2
      subst e
      refine ⟨m, hm, hp, fun m' hm' => ?_⟩
      cases hq : p m' with
      | false => rfl
      | true => exact absurd ⟨m', hm', hq⟩ h2
theorem pick_some (l : List S27) (out : List Int) (i : Nat) (ht : takenB out (i : Int) = false) (hf : freeB l (takenB out) i = true) (d : Nat) : ∀ s : Nat, s ≤ i → i < s + d → ¬ pickN l out d s < 0 := by
  induction d with
  | zero => intro s h1 h2; omega
  | succ d ih =>
    intro s h1 h2
    unfold pickN
    by_cases hc : (!(takenB out (s : Int)) && freeB l (takenB out) s) = true
    · rw [if_pos hc]; omega
    · rw [if_neg hc]
      by_cases e : s = i
      · subst e
        rw [ht, hf] at hc
        exact absurd rfl hc
      · exact ih (s + 1) (by omega) (by omega)
theorem pick_fits {l : List S27} {o out : List Int} (ho : o.length = l.length) (hb : ∀ m, m < o.length → badC l o m = false) (hout : OkB l out) (hlt : out.length < l.length) : ¬ pickN l out l.length 0 < 0 := by
  have hO := okB_of hb
  have hex : ∃ m, m < o.length ∧ (!(takenB out (rd o ((m : Nat) : Int)))) = true := by
    by_cases hx : ∃ m, m < o.length ∧ (!(takenB out (rd o ((m : Nat) : Int)))) = true
    · exact hx
    · have hall : (List.range l.length).countP (fun i : Nat => takenB out (i : Int)) = (List.range l.length).length := by
        refine List.countP_eq_length.2 (fun k hk => ?_)
        obtain ⟨m, hm, e⟩ := okB_all hO ho k (List.mem_range.1 hk)
        cases ht : takenB out (k : Int) with
        | true => rfl
        | false => exact absurd ⟨m, hm, by rw [rd_atI o m hm, e, ht]; rfl⟩ hx
      have hc := okB_cnt hout out.length (Nat.le_refl _)
      rw [List.take_length] at hc
      rw [List.length_range, hc] at hall
      omega
  obtain ⟨m, hm, hp, hfirst⟩ := first_of (fun m => !(takenB out (rd o ((m : Nat) : Int)))) o.length hex
  obtain ⟨i, hi, hil⟩ := bad_in (hb m hm)
  have hp : (!(takenB out (rd o (m : Int)))) = true := hp
  rw [hi, Bool.not_eq_true'] at hp
  refine pick_some l out i hp (free_yes (fun k hk => ?_)) l.length 0 (by omega) (by omega)
  obtain ⟨mk, hmk, ek⟩ := okB_all hO ho k hk
  unfold hindB
  by_cases e : k = i
  · rw [decide_eq_true e]; rfl
  · cases ht : takenB out (k : Int) with
    | true => simp
    | false =>
      have hgt : m < mk := by
        by_cases h1 : mk < m
        · have := hfirst mk h1
          simp only [rd_atI o mk hmk, ek, ht] at this
          cases this
        · by_cases h2 : mk = m
          · subst h2
            have := hi
            rw [rd_atI o mk hmk, ek] at this
            omega
          · omega
      have hbk := hb mk hmk
      have hrk : rd o (mk : Int) = (k : Int) := by rw [rd_atI o mk hmk, ek]
      cases ha : aheadB (rd_T27 l (k : Int)) (rd_T27 l (i : Int)) with
      | false => simp
      | true =>
        rw [bad_ahead hmk hgt hrk hi ha] at hbk
        cases hbk
theorem order_fits {l : List S27} {o : List Int} (ho : o.length = l.length) (hb : ∀ m, m < o.length → badC l o m = false) (d : Nat) : ∀ out : List Int, OkB l out → out.length + d = l.length → (orderN l d out).2 = 0 := by
  induction d with
  | zero => intro out _ _; rfl
  | succ d ih =>
    intro out hO hl
    have hp := pick_fits ho hb hO (by omega)
    unfold orderN
    rw [if_neg hp]
    obtain ⟨j, h1, h2, h3, _⟩ := pick_spec l out l.length 0 hp
    rw [h1]
    refine ih _ ⟨fun m hm => ?_⟩ (by rw [List.length_append, List.length_singleton]; omega)
    rw [List.length_append, List.length_singleton] at hm
    by_cases e : m = out.length
    · subst e
      exact ⟨j, by simp, by omega, by simpa using h3⟩
    · obtain ⟨q, g1, g2, g3⟩ := hO.at_ m (by omega)
      exact ⟨q, by rw [List.getElem_append_left (by omega)]; exact g1, g2, by rw [List.take_append_of_le_length (by omega)]; exact g3⟩
theorem orderN_no (l : List S27) (d : Nat) : ∀ out : List Int, (orderN l d out).2 ≠ 0 → (orderN l d out).1 = [] := by
  induction d with
  | zero => intro out h; exact absurd rfl h
  | succ d ih =>
    intro out h
    unfold orderN at h ⊢
    split
    · rfl
    · rename_i hp
      rw [if_neg hp] at h
      exact ih _ h
theorem SerialFinds : ferrulelaw21_SerialFinds.Pure := by
  intro l o hl hq
  have ec : ∀ x : List Int, x.length < 17592186044417 → serial_Check.f l x = some (checkB l x) := fun x hx => by
    unfold serial_Check.f
    rw [if_pos ⟨hx, by omega⟩]
  unfold ferrulelaw21_SerialFinds.f ferrulelaw21_shown.f serial_Order.f
  simp only [Option.bind_some, if_true]
  by_cases h64 : (l.length : Int) > 64
  · have e : orderB l = ([], 4) := by unfold orderB; rw [if_pos h64]
    rw [e]
    simp [h64]
  · have e : orderB l = orderN l l.length [] := by unfold orderB; rw [if_neg h64]
    rw [e]
    by_cases h : (orderN l l.length []).2 = 0
    · obtain ⟨g1, _, g3⟩ := order_spec l l.length [] h
      have g1 : (orderN l l.length []).1.length = l.length := by simpa using g1
      simp only [h, if_true]
      rw [ec _ (by omega), check_yes (fun m hm => ok_bad g3 m hm), decide_eq_true g1]
      rfl
    · have hn := orderN_no l l.length [] h
      have hck : checkB l o = false := by
        cases hc : checkB l o with
        | false => rfl
        | true =>
          unfold checkB at hc
          rw [Bool.and_eq_true, decide_eq_true_iff] at hc
          refine absurd (order_fits hc.2 (fun m hm => ?_) l.length [] ⟨fun m hm => absurd hm (by simp)⟩ (by simp)) h
          have := List.all_eq_true.1 hc.1 m (List.mem_range.2 hm)
          simpa using this
      simp only [h, if_false, h64]
      rw [ec o (by omega), hck, hn]
      rfl
end Go.Proofs.Ytbadlkhelhomjaa.Pure
