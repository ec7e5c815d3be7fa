/- The pure statement of the law SerialTime, proved. Conditions: none. -/
import Derived.Test.YtbadlkhelhomjaaDefSerialTime
import Derived.Test.YtbadlkhelhomjaaSerL
namespace Go.Proofs.Ytbadlkhelhomjaa.Pure
open Go.RowKit Go.Proofs.Ytbadlkhelhomjaa.Pr Go.Proofs.YtbadlkhelhomjaaW.PrintWords Go.Proofs.YtbadlkhelhomjaaW.PrintLast Go.Proofs.YtbadlkhelhomjaaW.PrintMore
theorem pick_spec (l : List S27) (out : List Int) (d : Nat) : ∀ i : Nat, ¬ pickN l out d i < 0 → ∃ j : Nat, pickN l out d i = (j : Int) ∧ j < i + d ∧ takenB out (j : Int) = false ∧ freeB l (takenB out) j = true := by
  induction d with
  | zero =>
    intro i h
    exact absurd (show (-1 : Int) < 0 by omega) h
  | succ d ih =>
    intro i h
    unfold pickN at h ⊢
    by_cases hc : (!(takenB out (i : Int)) && freeB l (takenB out) i) = true
    · rw [if_pos hc]
      rw [Bool.and_eq_true, Bool.not_eq_true'] at hc
      exact ⟨i, rfl, by omega, hc.1, hc.2⟩
    · rw [if_neg hc] at h ⊢
      obtain ⟨j, h1, h2, h3⟩ := ih (i + 1) h
      exact ⟨j, h1, by omega, h3⟩
def OkA (l : List S27) (a : List Int) (lo : Nat) : Prop := ∀ m : Nat, lo ≤ m → ∀ h : m < a.length, ∃ j : Nat, a[m] = (j : Int) ∧ j < l.length ∧ takenB (a.take m) (j : Int) = false ∧ freeB l (takenB (a.take m)) j = true
theorem order_spec (l : List S27) (d : Nat) : ∀ out : List Int, (orderN l d out).2 = 0 → (orderN l d out).1.length = out.length + d ∧ (∃ t, (orderN l d out).1 = out ++ t) ∧ OkA l (orderN l d out).1 out.length := by
  induction d with
  | zero =>
    intro out _
    exact ⟨rfl, ⟨[], by simp [orderN]⟩, fun m h1 h2 => absurd h2 (by show ¬ m < out.length; omega)⟩
  | succ d ih =>
    intro out h
    unfold orderN at h ⊢
    by_cases hp : pickN l out l.length 0 < 0
    · rw [if_pos hp] at h
      exact absurd h (by decide)
    · rw [if_neg hp] at h ⊢
      obtain ⟨j, h1, h2, h3, h4⟩ := pick_spec l out l.length 0 hp
      rw [h1] at h ⊢
      obtain ⟨g1, ⟨t, g2⟩, g3⟩ := ih (out ++ [(j : Int)]) h
      rw [List.length_append, List.length_singleton] at g1 g3
      refine ⟨by omega, ⟨[(j : Int)] ++ t, by rw [g2, List.append_assoc]⟩, fun m hm hlt => ?_⟩
      by_cases e : m = out.length
      · subst e
        refine ⟨j, ?_, by omega, ?_, ?_⟩
        · simp [g2]
        · rw [g2]; simpa using h3
        · rw [g2]; simpa using h4
      · exact g3 m (by omega) hlt
theorem taken_false {out : List Int} {x : Int} (h : takenB out x = false) : ∀ y ∈ out, y ≠ x := by
  unfold takenB at h
  rw [List.any_eq_false] at h
  intro y hy e
  exact h y hy (by simp [e])
theorem ok_ne {l : List S27} {a : List Int} (h : OkA l a 0) (m m' : Nat) (hm : m < a.length) (hlt : m' < m) : a[m']'(by omega) ≠ a[m] := by
  obtain ⟨j, h1, _, h3, _⟩ := h m (by omega) hm
  rw [h1]
  refine taken_false h3 _ ?_
  rw [List.mem_take_iff_getElem]
  exact ⟨m', by omega, rfl⟩
theorem cnt_step (p q : Nat → Bool) (j : Nat) (hq : ∀ i, q i = (p i || decide (j = i))) (hj : p j = false) (n : Nat) : (List.range n).countP q = (List.range n).countP p + if j < n then 1 else 0 := by
  induction n with
  | zero => simp
  | succ n ih =>
    rw [List.range_succ, List.countP_append, List.countP_append, ih, List.countP_singleton, List.countP_singleton, hq n]
    by_cases e : j = n
    · subst e
      simp [hj]
    · have h1 : decide (j = n) = false := decide_eq_false e
      rw [h1, Bool.or_false]
      by_cases h2 : j < n
      · have h3 : j < n + 1 := by omega
        simp only [h2, h3, if_true]
        omega
      · have h3 : ¬ j < n + 1 := by omega
        simp only [h2, h3, if_false]
        omega
theorem ok_cnt {l : List S27} {a : List Int} (h : OkA l a 0) (m : Nat) : m ≤ a.length → (List.range l.length).countP (fun i => takenB (a.take m) ((i : Nat) : Int)) = m := by
  induction m with
  | zero =>
    intro _
    simp [takenB]
  | succ m ih =>
    intro hm
    obtain ⟨j, h1, h2, h3, _⟩ := h m (by omega) (by omega)
    have := cnt_step (fun i => takenB (a.take m) ((i : Nat) : Int)) (fun i => takenB (a.take (m + 1)) ((i : Nat) : Int)) j (fun i => by
      rw [List.take_succ_eq_append_getElem (by omega), h1]
      unfold takenB
      rw [List.any_append]
      by_cases e : j = i
      · simp [e]
      · have e2 : ¬ ((j : Int) = (i : Int)) := by omega
        simp [e, e2]) h3 l.length
    rw [this, ih (by omega), if_pos h2]
theorem ok_all {l : List S27} {a : List Int} (h : OkA l a 0) (hl : a.length = l.length) (k : Nat) (hk : k < l.length) : ∃ (m : Nat) (hm : m < a.length), a[m] = (k : Int) := by
  have hc := ok_cnt h a.length (Nat.le_refl _)
  rw [List.take_length] at hc
  have := (List.countP_eq_length (p := fun i : Nat => takenB a (i : Int)) (l := List.range l.length)).1 (by rw [hc, List.length_range, hl]) k (List.mem_range.2 hk)
  unfold takenB at this
  obtain ⟨y, hy, he⟩ := List.any_eq_true.1 this
  obtain ⟨m, hm, rfl⟩ := List.getElem_of_mem hy
  exact ⟨m, hm, by simpa using he⟩
section
variable (l : List S27) (hl : l.length ≤ 64) (a : List Int) (ha : a.length = l.length) (hok : OkA l a 0) (at_ : List Int) (hat : at_.length = l.length)
include hl ha hat in
theorem time_in (i : Nat) (hi : i < l.length) (H : ∀ k : Nat, k < l.length → i ≠ k → (rd_T27 l (i : Int)).f2 > 0 → (rd_T27 l (i : Int)).f2 < (rd_T27 l (k : Int)).f1 → ¬ rd at_ (i : Int) > rd at_ (k : Int)) (hn : Ev (fun k => ferrulelaw21_SerialTime.l1 k l true a at_ ((i + 1 : Nat) : Int)) true) (d : Nat) :
    ∀ j : Nat, j + d = l.length → Ev (fun k => ferrulelaw21_SerialTime.l2 k l true a at_ (i : Int) (j : Int)) true := by
  have hwi : wrap64 ((i : Int) + 1) = ((i + 1 : Nat) : Int) := by rw [wrap64_in (by omega) (by omega)]; omega
  induction d with
  | zero =>
    intro j hj
    refine Ev.step (fun k => ?_) hn
    rw [ferrulelaw21_SerialTime.l2, if_neg (by omega), hwi]
  | succ d ih =>
    intro j hj
    have hw : wrap64 ((j : Int) + 1) = ((j + 1 : Nat) : Int) := by rw [wrap64_in (by omega) (by omega)]; omega
    refine Ev.step (fun k => ?_) (ih (j + 1) (by omega))
    rw [ferrulelaw21_SerialTime.l2, if_pos (by omega), hw]
    by_cases e : (i : Int) = (j : Int)
    · rw [if_pos e]
    · rw [if_neg e, if_pos (by omega), if_pos (by omega)]
      by_cases h1 : (rd_T27 l (i : Int)).f2 > 0
      · rw [if_pos h1, if_pos (by omega)]
        by_cases h2 : (rd_T27 l (i : Int)).f2 < (rd_T27 l (j : Int)).f1
        · rw [if_pos h2, if_pos (by omega), if_pos (by omega), if_neg (H j (by omega) (by omega) h1 h2)]
        · rw [if_neg h2]
      · rw [if_neg h1]
include hl ha hat in
theorem time_out (H : ∀ i k : Nat, i < l.length → k < l.length → i ≠ k → (rd_T27 l (i : Int)).f2 > 0 → (rd_T27 l (i : Int)).f2 < (rd_T27 l (k : Int)).f1 → ¬ rd at_ (i : Int) > rd at_ (k : Int)) (d : Nat) :
    ∀ i : Nat, i + d = l.length → Ev (fun k => ferrulelaw21_SerialTime.l1 k l true a at_ (i : Int)) true := by
  induction d with
  | zero =>
    intro i hi
    refine Ev.step (f := fun _ => some true) (fun k => ?_) (Ev.now _)
    rw [ferrulelaw21_SerialTime.l1, if_neg (by omega), if_pos rfl, ha]
    simp
  | succ d ih =>
    intro i hi
    refine Ev.step (f := fun k => ferrulelaw21_SerialTime.l2 k l true a at_ (i : Int) ((0 : Nat) : Int)) (fun k => ?_) (time_in l hl a ha at_ hat i (by omega) (fun k hk => H i k (by omega) hk) (ih (i + 1) (by omega)) l.length 0 (by omega))
    rw [ferrulelaw21_SerialTime.l1, if_pos (by omega)]
    rfl
end
theorem rd_set (x : List Int) (v : Nat) (hv : v < x.length) (m : Int) (i : Nat) : rd (x.set v m) (i : Int) = if v = i then m else rd x (i : Int) := by
  unfold rd
  simp only [Int.toNat_natCast, List.getD_eq_getElem?_getD, List.getElem?_set]
  by_cases e : v = i
  · subst e
    simp [hv]
  · simp [e]
theorem time_at (l : List S27) (hl : l.length ≤ 64) (a : List Int) (ha : a.length = l.length) (hok : OkA l a 0)
    (HH : ∀ at_ : List Int, at_.length = l.length → (∀ (m : Nat) (hm : m < a.length), rd at_ a[m] = (m : Int)) → Ev (fun k => ferrulelaw21_SerialTime.l1 k l true a at_ 0) true) (d : Nat) :
    ∀ (m : Nat) (at_ : List Int), m + d = a.length → at_.length = l.length → (∀ (m' : Nat) (hm : m' < a.length), m' < m → rd at_ a[m'] = (m' : Int)) → Ev (fun k => ferrulelaw21_SerialTime.l0 k l true a at_ (m : Int)) true := by
  induction d with
  | zero =>
    intro m at_ hm hat h
    refine Ev.step (fun k => ?_) (HH at_ hat (fun m' hm' => h m' hm' (by omega)))
    rw [ferrulelaw21_SerialTime.l0, if_neg (by omega)]
  | succ d ih =>
    intro m at_ hm hat h
    have hw : wrap64 ((m : Int) + 1) = ((m + 1 : Nat) : Int) := by rw [wrap64_in (by omega) (by omega)]; omega
    have hml : m < a.length := by omega
    obtain ⟨j, h1, h2, _, _⟩ := hok m (by omega) hml
    have hrd : rd a (m : Int) = (j : Int) := by
      rw [← h1]
      simp [rd, List.getD_eq_getElem?_getD, hml]
    refine Ev.step (fun k => ?_) (ih (m + 1) (at_.set j (m : Int)) (by omega) (by rw [List.length_set]; exact hat) (fun m' hm' hlt => ?_))
    · rw [ferrulelaw21_SerialTime.l0, if_pos (by omega), if_pos (by omega), hrd, if_neg (by omega), if_neg (by omega), if_pos (by omega), if_pos (by omega), hw, Int.toNat_natCast]
    · obtain ⟨j', g1, g2, _, _⟩ := hok m' (by omega) hm'
      rw [g1, rd_set _ _ (by omega)]
      by_cases e : m' = m
      · subst e
        have : (j : Int) = (j' : Int) := h1.symm.trans g1
        rw [if_pos (by omega)]
      · have hne := ok_ne hok m m' hml (by omega)
        rw [g1, h1] at hne
        rw [if_neg (by omega), ← g1]
        exact h m' hm' (by omega)
theorem SerialTime : ferrulelaw21_SerialTime.Pure := by
  intro l hq
  refine Ev.rounds ?_
  unfold ferrulelaw21_SerialTime.f ferrulelaw21_shown.f serial_Order.f
  simp only [Option.bind_some]
  by_cases h : (orderB l).2 = 0
  · simp only [h, if_true]
    unfold orderB at h ⊢
    by_cases h64 : (l.length : Int) > 64
    · rw [if_pos h64] at h
      exact absurd h (by decide)
    · rw [if_neg h64] at h
      have hl : l.length ≤ 64 := by omega
      obtain ⟨g1, _, g3⟩ := order_spec l l.length [] h
      simp only [h64, if_false]
      generalize (orderN l l.length []).1 = a at g1 g3
      have ha : a.length = l.length := by simpa using g1
      have hok : OkA l a 0 := g3
      have z1 : (0 : Int) ≤ (l.length : Int) := by omega
      have z2 : ((l.length : Int)).toNat ≤ 35184372088832 := by omega
      simp only [z1, z2, if_true]
      refine time_at l hl a ha hok (fun at_ hat hm => ?_) a.length 0 (List.replicate ((l.length : Int)).toNat 0) (by omega) (by simp) (fun m' _ h => by omega)
      refine time_out l hl a ha at_ hat (fun i k hi hk hne h1 h2 => ?_) l.length 0 (by omega)
      obtain ⟨mi, hmi, ei⟩ := ok_all hok ha i hi
      obtain ⟨mk, hmk, ek⟩ := ok_all hok ha k hk
      rw [← ei, ← ek, hm mi hmi, hm mk hmk]
      intro hgt
      have hgt : mk < mi := by omega
      obtain ⟨j, f1, f2, f3, f4⟩ := hok mk (by omega) hmk
      have hjk : j = k := by have := f1.symm.trans ek; omega
      subst hjk
      have hti : takenB (a.take mk) (i : Int) = false := by
        unfold takenB
        rw [List.any_eq_false]
        intro y hy
        obtain ⟨m'', hm'', rfl⟩ := List.mem_take_iff_getElem.1 hy
        have := ok_ne hok mi m'' hmi (by omega)
        rw [ei] at this
        simpa using this
      have hA : aheadB (rd_T27 l (i : Int)) (rd_T27 l (j : Int)) = true := by
        unfold aheadB
        have e1 : ((rd_T27 l (i : Int)).f2 == 0) = false := by simp; omega
        rw [e1, decide_eq_true h2]
        rfl
      have hh : hindB l (takenB (a.take mk)) j i = true := by
        unfold hindB
        rw [decide_eq_false hne, hti, hA]
        rfl
      rw [free_no i hi hh] at f4
      cases f4
  · simp only [h, if_false]
    exact Ev.now true
end Go.Proofs.Ytbadlkhelhomjaa.Pure
