/- The pure statement of the law LockTells, proved. Conditions: none. -/
import Derived.Test.YtgmflfbhifdacaaDefLockTells
import Derived.Test.YtgmflfbhifdacaaLockL
namespace Go.Proofs.Ytgmflfbhifdacaa.Pure
open Go.RowKit Go.Proofs.Ytgmflfbhifdacaa.Pr Go.Proofs.YtgmflfbhifdacaaW.PrintWords Go.Proofs.YtgmflfbhifdacaaW.PrintLast Go.Proofs.YtgmflfbhifdacaaW.PrintMore
theorem take_le (l : List S40) (i : Nat) : (l.take i).length ≤ l.length := by rw [List.length_take]; omega
theorem drop_loop (l : List S40) (hl : l.length < 3518437208883) (a b : Int) (d : Nat) : ∀ i, i + d = l.length → Ev (fun k => ferruleref12_Drop.l0 k l (keepB (p29 ⟨a, b⟩) (l.take i)) (i : Int) a b) (keepB (p29 ⟨a, b⟩) l) := by
  induction d with
  | zero =>
    intro i hi
    refine Ev.step (f := fun _ => some (keepB (p29 ⟨a, b⟩) l)) (fun k => ?_) (Ev.now _)
    rw [ferruleref12_Drop.l0, if_neg (by omega), List.take_of_length_le (by omega)]
  | succ d ih =>
    intro i hi
    have hw : wrap64 ((i : Int) + 1) = ((i + 1 : Nat) : Int) := by rw [wrap64_in (by omega) (by omega)]; omega
    have h := ih (i + 1) (by omega)
    rw [keep_take _ _ _ (by omega)] at h
    have hlen : (keepB (p29 ⟨a, b⟩) (l.take i)).length < 3518437208883 := Nat.lt_of_le_of_lt (keep_len _ _) (Nat.lt_of_le_of_lt (take_le _ _) hl)
    have hne : (!((rd_T40 l (i : Int)).f1.f0 == a) || (!((rd_T40 l (i : Int)).f1.f1 == b))) = !(p29 ⟨a, b⟩ (rd_T40 l (i : Int))) := (Bool.not_and _ _).symm
    refine Ev.step (fun k => ?_) h
    rw [ferruleref12_Drop.l0, if_pos (by omega), if_pos (by omega), hne, hw]
    cases hp : p29 ⟨a, b⟩ (rd_T40 l (i : Int)) with
    | true => 
      rw [if_neg (by decide), if_pos rfl, List.append_nil]
    | false =>
      rw [if_pos (by decide), if_pos hlen, if_neg (by decide)]
theorem drop_f (l : List S40) (hl : l.length < 3518437208883) (a b : Int) : Ev (fun k => ferruleref12_Drop.f k l a b) (keepB (p29 ⟨a, b⟩) l) := drop_loop l hl a b l.length 0 (by omega)
theorem same_loop (l : List S40) (hl : l.length < 3518437208883) (d : Nat) : ∀ i, i + d = l.length → Ev (fun k => ferruleref12_Same.l0 k l l (i : Int)) true := by
  induction d with
  | zero =>
    intro i hi
    refine Ev.step (f := fun _ => some true) (fun k => ?_) (Ev.now _)
    rw [ferruleref12_Same.l0, if_neg (by omega)]
  | succ d ih =>
    intro i hi
    have hw : wrap64 ((i : Int) + 1) = ((i + 1 : Nat) : Int) := by rw [wrap64_in (by omega) (by omega)]; omega
    refine Ev.step (fun k => ?_) (ih (i + 1) (by omega))
    rw [ferruleref12_Same.l0, if_pos (by omega), if_pos (by omega), if_pos (by omega), if_neg (by simp), hw]
theorem same_f (l : List S40) (hl : l.length < 3518437208883) : Ev (fun k => ferruleref12_Same.f k l l) true := by
  unfold ferruleref12_Same.f
  simp only [if_true]
  exact same_loop l hl l.length 0 (by omega)
theorem stB_list (a b : ByteArray) : (a.toList = b.toList) = (stB a b = true) := by unfold stB; rw [beq_iff_eq]
theorem has_loop (l : List S40) (hl : l.length < 3518437208883) (a b : Int) (key : ByteArray) (wr : Bool) (d : Nat) : ∀ i, i + d = l.length → Ev (fun k => ferruleref12_Has.l0 k l key wr (i : Int) a b) ((l.drop i).any (p31 ⟨a, b⟩ key wr)) := by
  induction d with
  | zero =>
    intro i hi
    refine Ev.step (f := fun _ => some ((l.drop i).any (p31 ⟨a, b⟩ key wr))) (fun k => ?_) (Ev.now _)
    rw [ferruleref12_Has.l0, if_neg (by omega), List.drop_of_length_le (by omega)]
    rfl
  | succ d ih =>
    intro i hi
    have hw : wrap64 ((i : Int) + 1) = ((i + 1 : Nat) : Int) := by rw [wrap64_in (by omega) (by omega)]; omega
    have h := ih (i + 1) (by omega)
    have hd : (l.drop i).any (p31 ⟨a, b⟩ key wr) = (p31 ⟨a, b⟩ key wr (rd_T40 l (i : Int)) || (l.drop (i + 1)).any (p31 ⟨a, b⟩ key wr)) := by
      rw [List.drop_eq_getElem_cons (show i < l.length by omega), rd_at l i (by omega)]
      rfl
    have ht : ((rd_T40 l (i : Int)).f1.f0 == a && ((rd_T40 l (i : Int)).f1.f1 == b)) = txB (rd_T40 l (i : Int)).f1 ⟨a, b⟩ := rfl
    rw [hd]
    have hq : p31 ⟨a, b⟩ key wr (rd_T40 l (i : Int)) = (txB (rd_T40 l (i : Int)).f1 ⟨a, b⟩ && (stB (rd_T40 l (i : Int)).f0 key && ((rd_T40 l (i : Int)).f2 || !wr))) := rfl
    rw [hq]
    have hst : ∀ k, ferruleref12_Has.l0 (k + 1) l key wr (i : Int) a b = (if txB (rd_T40 l (i : Int)).f1 ⟨a, b⟩ = true then (if stB (rd_T40 l (i : Int)).f0 key = true then (if (rd_T40 l (i : Int)).f2 = true then some true else if wr = true then ferruleref12_Has.l0 k l key wr ((i + 1 : Nat) : Int) a b else some true) else ferruleref12_Has.l0 k l key wr ((i + 1 : Nat) : Int) a b) else ferruleref12_Has.l0 k l key wr ((i + 1 : Nat) : Int) a b) := fun k => by
      rw [ferruleref12_Has.l0, if_pos (by omega), if_pos (by omega), hw, ht]
      simp only [stB_list]
    refine Ev.step hst ?_
    clear hst hq hd ht
    cases txB (rd_T40 l (i : Int)).f1 ⟨a, b⟩ with
    | false => simpa using h
    | true =>
      cases stB (rd_T40 l (i : Int)).f0 key with
      | false => simpa using h
      | true =>
        cases (rd_T40 l (i : Int)).f2 with
        | true => simpa using Ev.now true
        | false =>
          cases wr with
          | true => simpa using h
          | false => simpa using Ev.now true
theorem has_f (l : List S40) (hl : l.length < 3518437208883) (a b : Int) (key : ByteArray) (wr : Bool) : Ev (fun k => ferruleref12_Has.f k l a b key wr) (hasB ⟨a, b⟩ key wr l) := by
  unfold hasB
  rw [idxN_any]
  exact has_loop l hl a b key wr l.length 0 (by omega)
theorem elder_f (a b c d : Int) : ferruleref12_Elder.f a b c d = some (elderB ⟨a, b⟩ ⟨c, d⟩) := by
  unfold ferruleref12_Elder.f elderB
  by_cases h : a = c
  · subst h
    rw [if_pos rfl]
    simp
  · rw [if_neg h]
    simp [h]
theorem way_f (h : S40) (t : S25) (key : ByteArray) (w : Bool) : ferruleref12_inWay.f h.f0 h.f1.f0 h.f1.f1 h.f2 t.f0 t.f1 key w = some (wayB h t key w) := by
  unfold ferruleref12_inWay.f wayB
  have hne : (!(h.f1.f0 == t.f0) || (!(h.f1.f1 == t.f1))) = !(txB h.f1 t) := (Bool.not_and _ _).symm
  simp only [hne, stB_list]
  cases stB h.f0 key <;> cases txB h.f1 t <;> cases h.f2 <;> simp
/-- Two entries that may not lie together: one in another's way, or one pair twice. -/
def wrB (l : List S40) (i j : Nat) : Bool := wayB (rd_T40 l (j : Int)) (rd_T40 l (i : Int)).f1 (rd_T40 l (i : Int)).f0 (rd_T40 l (i : Int)).f2 || (!(decide (i = j)) && (txB (rd_T40 l (i : Int)).f1 (rd_T40 l (j : Int)).f1 && stB (rd_T40 l (i : Int)).f0 (rd_T40 l (j : Int)).f0))
theorem right_in (l : List S40) (hl : l.length < 3518437208883) (i : Nat) (hi : i < l.length) (r : Bool) (d : Nat) : ∀ j, j + d = l.length → ((∃ j', j ≤ j' ∧ j' < l.length ∧ wrB l i j' = true) → r = false) → ((∀ j', j ≤ j' → j' < l.length → wrB l i j' = false) → Ev (fun k => ferruleref12_Right.l0 k l ((i + 1 : Nat) : Int)) r) → Ev (fun k => ferruleref12_Right.l1 k l (i : Int) (j : Int)) r := by
  have hwi : wrap64 ((i : Int) + 1) = ((i + 1 : Nat) : Int) := by rw [wrap64_in (by omega) (by omega)]; omega
  induction d with
  | zero =>
    intro j hj _ h2
    refine Ev.step (fun k => ?_) (h2 (fun j' _ _ => by omega))
    rw [ferruleref12_Right.l1, if_neg (by omega), hwi]
  | succ d ih =>
    intro j hj h1 h2
    have hw : wrap64 ((j : Int) + 1) = ((j + 1 : Nat) : Int) := by rw [wrap64_in (by omega) (by omega)]; omega
    have ht : ((rd_T40 l (i : Int)).f1.f0 == (rd_T40 l (j : Int)).f1.f0 && ((rd_T40 l (i : Int)).f1.f1 == (rd_T40 l (j : Int)).f1.f1)) = txB (rd_T40 l (i : Int)).f1 (rd_T40 l (j : Int)).f1 := rfl
    have hst : ∀ k, ferruleref12_Right.l1 (k + 1) l (i : Int) (j : Int) = if wrB l i j = true then some false else ferruleref12_Right.l1 k l (i : Int) ((j + 1 : Nat) : Int) := fun k => by
      rw [ferruleref12_Right.l1, if_pos (by omega), if_pos (by omega), if_pos (by omega), if_pos (by omega), way_f, Option.bind_some, hw, ht]
      simp only [stB_list]
      unfold wrB
      by_cases hij : i = j
      · subst hij
        cases wayB (rd_T40 l (i : Int)) (rd_T40 l (i : Int)).f1 (rd_T40 l (i : Int)).f0 (rd_T40 l (i : Int)).f2 <;> simp
      · have hij' : ¬ ((i : Int) = (j : Int)) := by omega
        cases wayB (rd_T40 l (j : Int)) (rd_T40 l (i : Int)).f1 (rd_T40 l (i : Int)).f0 (rd_T40 l (i : Int)).f2 <;> cases txB (rd_T40 l (i : Int)).f1 (rd_T40 l (j : Int)).f1 <;> cases stB (rd_T40 l (i : Int)).f0 (rd_T40 l (j : Int)).f0 <;> simp [hij, hij']
    refine Ev.step hst ?_
    cases hb : wrB l i j with
    | true =>
      rw [h1 ⟨j, by omega, by omega, hb⟩]
      simpa using Ev.now false
    | false =>
      simp only [Bool.false_eq_true, if_false]
      refine ih (j + 1) (by omega) (fun ⟨j', a, b, c⟩ => h1 ⟨j', by omega, b, c⟩) (fun h => h2 (fun j' a b => ?_))
      by_cases e : j' = j
      · rw [e]; exact hb
      · exact h j' (by omega) b
theorem right_out (l : List S40) (hl : l.length < 3518437208883) (r : Bool) (d : Nat) : ∀ i, i + d = l.length → (r = false ↔ ∃ i' j', i ≤ i' ∧ i' < l.length ∧ j' < l.length ∧ wrB l i' j' = true) → Ev (fun k => ferruleref12_Right.l0 k l (i : Int)) r := by
  induction d with
  | zero =>
    intro i hi h
    have hr : r = true := by
      cases hr : r with
      | true => rfl
      | false => obtain ⟨i', j', a, b, _⟩ := h.1 hr; omega
    refine Ev.step (f := fun _ => some r) (fun k => ?_) (Ev.now _)
    rw [ferruleref12_Right.l0, if_neg (by omega), hr]
  | succ d ih =>
    intro i hi h
    have hst : ∀ k, ferruleref12_Right.l0 (k + 1) l (i : Int) = ferruleref12_Right.l1 k l (i : Int) ((0 : Nat) : Int) := fun k => by
      rw [ferruleref12_Right.l0, if_pos (by omega)]
      rfl
    refine Ev.step hst (right_in l hl i (by omega) r l.length 0 (by omega) (fun ⟨j', _, b, c⟩ => h.2 ⟨i, j', by omega, by omega, b, c⟩) (fun hn => ih (i + 1) (by omega) (h.trans ?_)))
    constructor
    · rintro ⟨i', j', a, b, c, e⟩
      by_cases ei : i' = i
      · subst ei
        rw [hn j' (by omega) c] at e
        cases e
      · exact ⟨i', j', by omega, b, c, e⟩
    · rintro ⟨i', j', a, b, c, e⟩
      exact ⟨i', j', by omega, b, c, e⟩
theorem right_iff (l : List S40) : rightB l = false ↔ ∃ i j, 0 ≤ i ∧ i < l.length ∧ j < l.length ∧ wrB l i j = true := by
  have hany : ∀ i, (0 ≤ idxN (p32 (rd_T40 l ((i : Nat) : Int))) l 0) ↔ ∃ j, j < l.length ∧ wayB (rd_T40 l ((j : Nat) : Int)) (rd_T40 l (i : Int)).f1 (rd_T40 l (i : Int)).f0 (rd_T40 l (i : Int)).f2 = true := fun i => by
    have := idxN_any (p32 (rd_T40 l (i : Int))) l
    constructor
    · intro h
      rw [decide_eq_true h] at this
      obtain ⟨x, hx, hp⟩ := List.any_eq_true.1 this.symm
      obtain ⟨j, hj, rfl⟩ := List.getElem_of_mem hx
      exact ⟨j, hj, by rw [rd_at l j hj]; exact hp⟩
    · rintro ⟨j, hj, h⟩
      refine of_decide_eq_true (this.trans (List.any_eq_true.2 ⟨l[j], List.getElem_mem hj, ?_⟩))
      rw [rd_at l j hj] at h
      exact h
  have hseen : ∀ i, i < l.length → (seenB (l.take i) ((rd_T40 l ((i : Nat) : Int)).f1, (rd_T40 l (i : Int)).f0) = true ↔ ∃ j, j < i ∧ (rd_T40 l ((j : Nat) : Int)).f1 = (rd_T40 l (i : Int)).f1 ∧ (rd_T40 l (j : Int)).f0 = (rd_T40 l (i : Int)).f0) := fun i hi => by
    unfold seenB
    rw [List.any_eq_true]
    constructor
    · rintro ⟨x, hx, hp⟩
      obtain ⟨j, hj, rfl⟩ := List.getElem_of_mem hx
      rw [List.length_take] at hj
      rw [List.getElem_take, decide_eq_true_iff] at hp
      rw [← rd_at l j (by omega)] at hp
      exact ⟨j, by omega, (Prod.mk.inj hp).1, (Prod.mk.inj hp).2⟩
    · rintro ⟨j, hj, h1, h2⟩
      refine ⟨(l.take i)[j]'(by rw [List.length_take]; omega), List.getElem_mem _, ?_⟩
      rw [List.getElem_take, decide_eq_true_iff, ← rd_at l j (by omega), h1, h2]
  unfold rightB
  rw [List.all_eq_false]
  constructor
  · rintro ⟨i, hi, hb⟩
    rw [List.mem_range] at hi
    simp only [Bool.not_eq_true', Bool.not_eq_false] at hb
    unfold badB at hb
    rw [Bool.or_eq_true, decide_eq_true_iff] at hb
    rcases hb with h | h
    · obtain ⟨j, hj, h1, h2⟩ := (hseen i hi).1 h
      refine ⟨i, j, by omega, hi, by omega, ?_⟩
      unfold wrB
      rw [Bool.or_eq_true]
      right
      rw [decide_eq_false (by omega), txB_eq.2 h1.symm, stB_eq.2 h2.symm]
      rfl
    · obtain ⟨j, hj, h1⟩ := (hany i).1 h
      refine ⟨i, j, by omega, hi, hj, ?_⟩
      unfold wrB
      rw [h1]
      rfl
  · rintro ⟨i, j, _, hi, hj, h⟩
    unfold wrB at h
    rw [Bool.or_eq_true] at h
    have key : ∀ i j, i < l.length → j < i → (rd_T40 l ((j : Nat) : Int)).f1 = (rd_T40 l ((i : Nat) : Int)).f1 → (rd_T40 l (j : Int)).f0 = (rd_T40 l (i : Int)).f0 → ∃ x, x ∈ List.range l.length ∧ ¬ (!(badB l x)) = true := fun i j hi hj h1 h2 => by
      refine ⟨i, List.mem_range.2 hi, ?_⟩
      unfold badB
      rw [(hseen i hi).2 ⟨j, hj, h1, h2⟩]
      simp
    rcases h with h | h
    · refine ⟨i, List.mem_range.2 hi, ?_⟩
      unfold badB
      rw [decide_eq_true ((hany i).2 ⟨j, hj, h⟩)]
      simp
    · rw [Bool.and_eq_true, Bool.and_eq_true, txB_eq, stB_eq] at h
      obtain ⟨h0, h1, h2⟩ := h
      have h0 : ¬ i = j := by simpa using h0
      by_cases hlt : j < i
      · exact key i j hi hlt h1.symm h2.symm
      · exact key j i hj (by omega) h1 h2
theorem okHb_of {x : S40} (h : q40 x) : okHb x = true := by
  unfold okHb
  simp only [q40, q25] at h
  have : x.f0.size ≤ maxLen := by unfold maxLen; omega
  simp [h, this]
theorem LockTells : ferrulelaw12_LockTells.Pure := by
  intro l a b key wr c d hl hq hc
  have hll : l.length < 3518437208883 := by omega
  refine Ev.rounds ?_
  unfold ferrulelaw12_LockTells.f
  have h2 : lock_Drop.f l c d = some (keepB (p29 ⟨c, d⟩) l) := if_pos hll
  have h3 : lock_Has.f l a b key wr = some (hasB ⟨a, b⟩ key wr l) := rfl
  have h4 : lock_Right.f l = some (rightB l) := if_pos (List.all_eq_true.2 (fun x hx => okHb_of (hl.2.2 x hx)))
  have h5 : lock_Elder.f a b c d = some (elderB ⟨a, b⟩ ⟨c, d⟩) := rfl
  rw [shown_true, h2, h3, h4, h5, elder_f]
  simp only [Option.bind_some]
  refine Ev.bind (drop_f l hll c d) (Ev.bind (same_f _ (Nat.lt_of_le_of_lt (keep_len _ _) hll)) ?_)
  simp only [if_true]
  refine Ev.bind (has_f l hll a b key wr) ?_
  simp only [beq_self_eq_true, if_true]
  refine Ev.bind (right_out l hll (rightB l) l.length 0 (by omega) (right_iff l)) ?_
  simp only [beq_self_eq_true, if_true]
  exact Ev.now true
end Go.Proofs.Ytgmflfbhifdacaa.Pure
