/- The pure statement of the law LockRight, proved. Conditions: none. -/
import Derived.Test.YtgmflfbhifdacaaDefLockRight
import Derived.Test.YtgmflfbhifdacaaLockL
namespace Go.Proofs.Ytgmflfbhifdacaa.Pure
open Go.RowKit Go.Proofs.Ytgmflfbhifdacaa.Pr Go.Proofs.YtgmflfbhifdacaaW.PrintWords Go.Proofs.YtgmflfbhifdacaaW.PrintLast Go.Proofs.YtgmflfbhifdacaaW.PrintMore
def SepP (a b : S40) : Prop := a.f0 = b.f0 → a.f1 ≠ b.f1 ∧ a.f2 = false ∧ b.f2 = false
theorem SepP.symm {a b : S40} (h : SepP a b) : SepP b a := fun e => let ⟨h1, h2, h3⟩ := h e.symm; ⟨h1.symm, h3, h2⟩
def Good (l : List S40) : Prop := l.Pairwise SepP ∧ l.length ≤ 48 ∧ ∀ x ∈ l, okT x.f1 = true
theorem good_keep {l : List S40} (h : Good l) (p : S40 → Bool) : Good (keepB p l) :=
  ⟨h.1.filter _, Nat.le_trans (keep_len _ _) h.2.1, fun x hx => h.2.2 x (mem_keep.1 hx).1⟩
theorem ofI_not {t : S25} {key : ByteArray} {l : List S40} (h : ¬ 0 ≤ ofI t key l) : ∀ x ∈ l, ¬ (x.f1 = t ∧ x.f0 = key) := fun x hx e => by
  have := idxN_none (p := p34 t key) h x hx
  rw [p34_iff.2 e] at this
  cases this
theorem good_ask {l : List S40} (h : Good l) (t : S25) (ht : okT t = true) (key : ByteArray) (write : Bool) (firm : List S25) : Good (askI l t key write firm).1 := by
  cases hh : hasI l t key write with
  | true =>
    unfold askI
    rw [if_pos hh]
    exact h
  | false =>
    rw [askI_eq _ _ _ _ _ hh]
    cases hs : scanB t key write firm l [] with
    | none => exact h
    | some out =>
      show Good (askE l t key write out).1
      have hin : ∀ x ∈ keepB (fun x => inB out x.f1) l, ¬ wayB x t key write = true := fun x hx hw => by
        obtain ⟨h1, h2⟩ := mem_keep.1 hx
        have := ((scanB_spec l [] out hs).1 x.f1).2 (.inr ⟨x, h1, hw, rfl⟩)
        rw [inB_iff.2 this] at h2
        cases h2
      have hm := good_keep h (fun x => inB out x.f1)
      have hsub : ∀ x ∈ keepB (fun x => inB out x.f1) l, x ∈ l := fun x hx => (mem_keep.1 hx).1
      unfold askE
      generalize keepB (fun x => inB out x.f1) l = m at hin hm hsub ⊢
      unfold askM
      by_cases hj : 0 ≤ ofI t key m
      · rw [if_pos hj]
        have hjl := ofI_lt t key m
        obtain ⟨hp, hmem⟩ := idxN_some (p := p34 t key) (l := m) hj
        change p34 t key (rd_T40 m (ofI t key m)) = true at hp
        change rd_T40 m (ofI t key m) ∈ m at hmem
        obtain ⟨e1, e2⟩ := p34_iff.1 hp
        have hwr : write = true := by
          have h0 : 0 ≤ ofI t key l := by
            by_cases h0 : 0 ≤ ofI t key l
            · exact h0
            · exact absurd ⟨e1, e2⟩ (ofI_not h0 _ (hsub _ hmem))
          unfold hasI at hh
          rw [decide_eq_true h0, Bool.true_and, Bool.or_eq_false_iff] at hh
          simpa using hh.2
        obtain ⟨j, hje⟩ := Int.eq_ofNat_of_zero_le hj
        rw [hje] at hjl hmem e1 e2 ⊢
        have hjn : j < m.length := by omega
        rw [rd_at m j hjn] at e1 e2 hmem ⊢
        refine ⟨?_, by rw [List.length_set]; exact hm.2.1, fun x hx => ?_⟩
        · have hoth : ∀ i (hi : i < m.length), i ≠ j → m[i].f0 ≠ key := fun i hi hij e => by
            have hs : SepP m[i] m[j] := by
              rcases Nat.lt_or_gt_of_ne hij with h | h
              · exact List.pairwise_iff_getElem.1 hm.1 i j hi hjn h
              · exact (List.pairwise_iff_getElem.1 hm.1 j i hjn hi h).symm
            have := (hs (e.trans e2.symm)).1
            exact hin m[i] (List.getElem_mem _) (wayB_iff.2 ⟨e, by rw [← e1]; exact this, .inr hwr⟩)
          rw [List.pairwise_iff_getElem]
          intro a b ha hb hab
          rw [List.length_set] at ha hb
          simp only [Int.toNat_natCast, List.getElem_set]
          by_cases h1 : j = a
          · rw [if_pos h1, if_neg (by omega)]
            intro e
            exact absurd (e.symm.trans e2) (hoth b hb (by omega))
          · rw [if_neg h1]
            by_cases h2 : j = b
            · rw [if_pos h2]
              intro e
              exact absurd (e.trans e2) (hoth a ha (by omega))
            · rw [if_neg h2]
              exact List.pairwise_iff_getElem.1 hm.1 a b ha hb hab
        · rcases List.mem_or_eq_of_mem_set hx with hx | rfl
          · exact hm.2.2 x hx
          · exact (hm.2.2 m[j] hmem)
      · rw [if_neg hj]
        by_cases h48 : 48 ≤ m.length
        · rw [if_pos h48]
          exact h
        · rw [if_neg h48]
          refine ⟨?_, by rw [List.length_append]; simp; omega, fun x hx => ?_⟩
          · rw [List.pairwise_append]
            refine ⟨hm.1, List.pairwise_singleton _ _, fun x hx y hy => ?_⟩
            rw [List.mem_singleton] at hy
            subst hy
            intro e
            have e' : x.f0 = key := e
            have hne : x.f1 ≠ t := fun e2 => ofI_not hj x hx ⟨e2, e'⟩
            have hnw := hin x hx
            rw [wayB_iff] at hnw
            refine ⟨hne, ?_, ?_⟩
            · cases hb : x.f2
              · rfl
              · exact absurd ⟨e', hne, .inl hb⟩ hnw
            · show write = false
              cases hb : write
              · rfl
              · exact absurd ⟨e', hne, .inr hb⟩ hnw
          · rcases List.mem_append.1 hx with hx | hx
            · exact hm.2.2 x hx
            · rw [List.mem_singleton] at hx
              subst hx
              exact ht
theorem right_l2 (x0 : List S27) (x1 : List S25) (h : List S40) (hg : Good h) (x7 : Int) (i : Nat) (hi : i < h.length) (hnext : Ev (fun k => ferrulelaw12_LockRight.l1 k x0 x1 true h x7 ((i + 1 : Nat) : Int)) true) (d : Nat) :
    ∀ j, j + d = i → Ev (fun k => ferrulelaw12_LockRight.l2 k x0 x1 true h x7 (i : Int) (j : Int)) true := by
  have hh := hg.2.1
  have hwi : wrap64 ((i : Int) + 1) = ((i + 1 : Nat) : Int) := by rw [wrap64_in (by omega) (by omega)]; omega
  induction d with
  | zero =>
    intro j hj
    refine Ev.step (fun k => ?_) hnext
    rw [ferrulelaw12_LockRight.l2, if_neg (by omega), hwi]
  | succ d ih =>
    intro j hj
    have hw : wrap64 ((j : Int) + 1) = ((j + 1 : Nat) : Int) := by rw [wrap64_in (by omega) (by omega)]; omega
    refine Ev.step (fun k => ?_) (ih (j + 1) (by omega))
    have hs : SepP h[j] h[i] := List.pairwise_iff_getElem.1 hg.1 j i (by omega) hi (by omega)
    rw [ferrulelaw12_LockRight.l2, if_pos (by omega), if_pos (by omega), if_pos (by omega), if_pos (by omega), if_pos (by omega), hw, rd_at h i hi, rd_at h j (by omega)]
    by_cases hk : h[i].f0.toList = h[j].f0.toList
    · have e : h[i].f0 = h[j].f0 := stB_eq.1 (by unfold stB; rw [hk]; exact beq_self_eq_true _)
      obtain ⟨n1, n2, n3⟩ := hs e.symm
      have n4 : (h[i].f1.f0 == h[j].f1.f0 && (h[i].f1.f1 == h[j].f1.f1)) = false := by
        rw [← Bool.not_eq_true]
        intro ht
        exact n1 (txB_eq.1 (show txB h[i].f1 h[j].f1 = true from ht)).symm
      rw [if_pos hk, n4, n2, n3]
      rfl
    · rw [if_neg hk]
theorem right_l1 (x0 : List S27) (x1 : List S25) (h : List S40) (hg : Good h) (x7 : Nat) (hx : x7 < 9223372036854775807) (hnext : Ev (fun k => ferrulelaw12_LockRight.l0 k x0 x1 true h ((x7 + 1 : Nat) : Int)) true) (d : Nat) :
    ∀ i, i + d = h.length → Ev (fun k => ferrulelaw12_LockRight.l1 k x0 x1 true h (x7 : Int) (i : Int)) true := by
  have hw : wrap64 ((x7 : Int) + 1) = ((x7 + 1 : Nat) : Int) := by rw [wrap64_in (by omega) (by omega)]; omega
  induction d with
  | zero =>
    intro i hi
    refine Ev.step (fun k => ?_) hnext
    rw [ferrulelaw12_LockRight.l1, if_neg (by omega), hw]
  | succ d ih =>
    intro i hi
    refine Ev.step (fun k => ?_) (right_l2 x0 x1 h hg (x7 : Int) i (by omega) (ih (i + 1) (by omega)) i 0 (by omega))
    rw [ferrulelaw12_LockRight.l1, if_pos (by omega)]
    rfl
theorem okT_of {x : S25} (h : q25 x) : okT x = true := by
  unfold okT
  rw [h.1, h.2]
  rfl
theorem right_l0 (x0 : List S27) (hl : x0.length ≤ 4611686018427387904) (hq : ∀ y ∈ x0, okT y.f0 = true) (x1 : List S25) (h1 : ∀ x ∈ x1, okT x = true) (d : Nat) : ∀ (i : Nat) (h : List S40), Good h → i + d = x0.length → Ev (fun k => ferrulelaw12_LockRight.l0 k x0 x1 true h (i : Int)) true := by
  induction d with
  | zero =>
    intro i h hg hi
    refine Ev.step (f := fun _ => some true) (fun k => ?_) (Ev.now _)
    rw [ferrulelaw12_LockRight.l0, if_neg (by omega)]
  | succ d ih =>
    intro i h hg hi
    have hw : wrap64 ((i : Int) + 1) = ((i + 1 : Nat) : Int) := by rw [wrap64_in (by omega) (by omega)]; omega
    have hlt : i < x0.length := by omega
    have hy : okT (rd_T27 x0 (i : Int)).f0 = true := by
      have e : rd_T27 x0 (i : Int) = x0[i] := by simp [rd_T27, List.getD_eq_getElem?_getD, hlt]
      rw [e]
      exact hq _ (List.getElem_mem _)
    generalize hyy : rd_T27 x0 (i : Int) = y at hy
    have hhl := hg.2.1
    by_cases hk : y.f1.toList = ([] : List UInt8)
    · refine Ev.step (fun k => ?_) (ih (i + 1) (keepB (p29 ⟨y.f0.f0, y.f0.f1⟩) h) (good_keep hg _) (by omega))
      rw [ferrulelaw12_LockRight.l0, if_pos (by omega), if_pos (by omega), hyy, if_pos hk, hw]
      unfold lock_Drop.f
      rw [if_pos (by omega)]
      rfl
    · have hg2 := good_ask hg ⟨y.f0.f0, y.f0.f1⟩ hy y.f1 y.f2 x1
      refine Ev.step (fun k => ?_) (right_l1 x0 x1 _ hg2 i (by omega) (ih (i + 1) _ hg2 (by omega)) _ 0 (Nat.zero_add _))
      rw [ferrulelaw12_LockRight.l0, if_pos (by omega), if_pos (by omega), hyy, if_neg hk, ask_f h _ _ _ _ _ (by omega) hg.2.2 h1]
      rfl
theorem LockRight : ferrulelaw12_LockRight.Pure := by
  intro x0 x1 h0 h1
  refine Ev.rounds ?_
  unfold ferrulelaw12_LockRight.f
  rw [shown_true]
  simp only [Option.bind_some]
  exact right_l0 x0 (by omega) (fun y hy => okT_of (h0.2.2 y hy).1) x1 (fun x hx => okT_of (h1.2.2 x hx)) x0.length 0 [] ⟨List.Pairwise.nil, by simp, fun x hx => by cases hx⟩ (by omega)
end Go.Proofs.Ytgmflfbhifdacaa.Pure
