/- What the document's fold computes: plain laws. Conditions: none. -/
import Derived.Test.YtfjhlcbpogihmaaKNoteLasts2
import Derived.Test.YtfjhlcbpogihmaaGNoteLastsHandRFold
namespace Go.Proofs.Ytfjhlcbpogihmaa.Pr
open Go.RowKit Go.Proofs.YtfjhlcbpogihmaaW.PrintWords Go.Proofs.YtfjhlcbpogihmaaW.PrintLast Go.Proofs.YtfjhlcbpogihmaaW.PrintMore
set_option linter.unusedVariables false
set_option linter.unusedSimpArgs false
theorem wu {x : Int} (h0 : 0 ≤ x) (h1 : x < 18446744073709551616) : IntKind.u64.wrap x = x := by
  simp [IntKind.wrap, IntKind.signed, IntKind.bits]
  omega
theorem wi {x : Int} (h0 : -9223372036854775808 ≤ x) (h1 : x < 9223372036854775808) : wrap64 x = x := by
  simp [wrap64]
  omega
theorem rd75_at (l : List S75) (i : Nat) (h : i < l.length) : rd_T75 l (i : Int) = l[i] := by simp [rd_T75, List.getD_eq_getElem?_getD, h]
theorem rd75_eta (l : List S75) (i : Int) : (⟨(rd_T75 l i).f0, (rd_T75 l i).f1⟩ : S75) = rd_T75 l i := rfl
/-- The entries below an index. -/
theorem cut_loop (term vote base bt n0 n1 n2 n3 : Int) (snap n4 : ByteArray) (es : List S75) (hb0 : 0 ≤ base) (hb1 : base ≤ 1099511627776) (hl : es.length ≤ 1024) (K : Nat) (hK : ∀ i : Nat, i < 1024 → (base + i + 1 < n1 ↔ i < K)) :
    ∀ (d i : Nat) (kept : List S75) (k : Nat), es.length - i = d → i ≤ es.length → kept.length ≤ i → d < k →
      ferruleref04_Step.l0 k kept (i : Int) term vote base bt snap es n0 n1 n2 n3 n4 base bt snap es = some (term, vote, base, bt, snap, kept ++ (es.take K).drop i)
  | 0, i, kept, k, hd, hi, hk, hkk => by
    obtain ⟨k, rfl⟩ : ∃ j, k = j + 1 := ⟨k - 1, by omega⟩
    simp only [ferruleref04_Step.l0]
    rw [if_neg (by omega), List.drop_of_length_le (by rw [List.length_take]; omega), List.append_nil]
  | d + 1, i, kept, k, hd, hi, hk, hkk => by
    obtain ⟨k, rfl⟩ : ∃ j, k = j + 1 := ⟨k - 1, by omega⟩
    have hil : i < es.length := by omega
    simp only [ferruleref04_Step.l0]
    rw [if_pos (by omega), wu (x := (i : Int)) (by omega) (by omega), wu (x := base + (i : Int)) (by omega) (by omega), wu (x := base + (i : Int) + 1) (by omega) (by omega), wi (x := (i : Int) + 1) (by omega) (by omega)]
    have hki := hK i (by omega)
    by_cases hc : base + (i : Int) + 1 < n1
    · rw [if_pos hc, if_pos (by omega)]
      simp only [Option.bind_some]
      rw [if_pos (by simp; omega), rd75_eta, rd75_at es i hil]
      have ih := cut_loop term vote base bt n0 n1 n2 n3 snap n4 es hb0 hb1 hl K hK d (i + 1) (kept ++ [es[i]]) k (by omega) (by omega) (by rw [List.length_append, List.length_singleton]; omega) (by omega)
      rw [show ((i : Int) + 1) = ((i + 1 : Nat) : Int) by omega, ih, List.append_assoc]
      have hx : (es.take K).drop i = es[i] :: (es.take K).drop (i + 1) := by
        rw [List.drop_eq_getElem_cons (by rw [List.length_take]; omega), List.getElem_take]
      rw [hx]
      rfl
    · rw [if_neg hc]
      have ih := cut_loop term vote base bt n0 n1 n2 n3 snap n4 es hb0 hb1 hl K hK d (i + 1) kept k (by omega) (by omega) (by omega) (by omega)
      rw [show ((i : Int) + 1) = ((i + 1 : Nat) : Int) by omega, ih]
      rw [List.drop_of_length_le (by rw [List.length_take]; omega), List.drop_of_length_le (by rw [List.length_take]; omega)]
/-- Behind the snapshot's entry all stay. -/
theorem seek_all (term vote base bt n0 n1 n2 n3 : Int) (snap n4 : ByteArray) (es : List S75) (hb0 : 0 ≤ base) (hb1 : base ≤ 1099511627776) (hl : es.length ≤ 1024) :
    ∀ (d i : Nat) (acc : List S75) (k : Nat), es.length - i = d → i ≤ es.length → acc.length ≤ i → n1 < base + i + 1 → d + d < k →
      ferruleref04_Step.l1 k acc true (i : Int) term vote base bt snap es n0 n1 n2 n3 n4 base bt snap es = some (term, vote, n1, n2, n4, acc ++ es.drop i)
  | 0, i, acc, k, hd, hi, hk, hn, hkk => by
    obtain ⟨k, rfl⟩ : ∃ j, k = j + 1 := ⟨k - 1, by omega⟩
    simp only [ferruleref04_Step.l1]
    rw [if_neg (by omega), List.drop_of_length_le (by omega), List.append_nil]
  | d + 1, i, acc, k, hd, hi, hk, hn, hkk => by
    obtain ⟨k, rfl⟩ : ∃ j, k = j + 1 + 1 := ⟨k - 2, by omega⟩
    have hil : i < es.length := by omega
    have ih := seek_all term vote base bt n0 n1 n2 n3 snap n4 es hb0 hb1 hl d (i + 1) (acc ++ [es[i]]) k (by omega) (by omega) (by rw [List.length_append, List.length_singleton]; omega) (by omega) (by omega)
    simp only [ferruleref04_Step.l1]
    rw [if_pos (by omega), wu (x := (i : Int)) (by omega) (by omega), wu (x := base + (i : Int)) (by omega) (by omega), wu (x := base + (i : Int) + 1) (by omega) (by omega), if_neg (by omega)]
    simp only [ferruleref04_Step.j3]
    rw [if_neg (by decide), if_pos (by omega), if_pos True.intro, if_pos (by omega), if_pos (by omega)]
    simp only [Option.bind_some]
    rw [if_pos (by simp; omega), rd75_eta, rd75_at es i hil, wi (x := (i : Int) + 1) (by omega) (by omega), show ((i : Int) + 1) = ((i + 1 : Nat) : Int) by omega, ih, List.append_assoc, List.drop_eq_getElem_cons hil]
    rfl
/-- Where it isn't there, or is behind us, none stays. -/
theorem seek_none (term vote base bt n0 n1 n2 n3 : Int) (snap n4 : ByteArray) (es : List S75) (hb0 : 0 ≤ base) (hb1 : base ≤ 1099511627776) (hl : es.length ≤ 1024) (acc : List S75) :
    ∀ (d i : Nat) (k : Nat), es.length - i = d → i ≤ es.length → (∀ j : Nat, i ≤ j → j < es.length → ¬ (base + j + 1 = n1 ∧ (rd_T75 es j).f0 = n2)) → d + d < k →
      ferruleref04_Step.l1 k acc false (i : Int) term vote base bt snap es n0 n1 n2 n3 n4 base bt snap es = some (term, vote, n1, n2, n4, acc)
  | 0, i, k, hd, hi, hn, hkk => by
    obtain ⟨k, rfl⟩ : ∃ j, k = j + 1 := ⟨k - 1, by omega⟩
    simp only [ferruleref04_Step.l1]
    rw [if_neg (by omega)]
  | d + 1, i, k, hd, hi, hn, hkk => by
    obtain ⟨k, rfl⟩ : ∃ j, k = j + 1 + 1 := ⟨k - 2, by omega⟩
    have hil : i < es.length := by omega
    have ih := seek_none term vote base bt n0 n1 n2 n3 snap n4 es hb0 hb1 hl acc d (i + 1) k (by omega) (by omega) (fun j hj => hn j (by omega)) (by omega)
    have hi1 := hn i (Nat.le_refl _) hil
    simp only [ferruleref04_Step.l1]
    rw [if_pos (by omega), wu (x := (i : Int)) (by omega) (by omega), wu (x := base + (i : Int)) (by omega) (by omega), wu (x := base + (i : Int) + 1) (by omega) (by omega)]
    have hj : ferruleref04_Step.j3 (k + 1) acc false (i : Int) (base + i + 1) false term vote base bt snap es n0 n1 n2 n3 n4 base bt snap es = some (term, vote, n1, n2, n4, acc) := by
      simp only [ferruleref04_Step.j3]
      rw [if_neg (by decide), wi (x := (i : Int) + 1) (by omega) (by omega), show ((i : Int) + 1) = ((i + 1 : Nat) : Int) by omega]
      split
      · rw [if_neg (by decide)]; exact ih
      · exact ih
    by_cases hc : base + (i : Int) + 1 = n1
    · rw [if_pos hc, if_pos (by omega)]
      have hf : ((rd_T75 es (i : Int)).f0 == n2) = false := beq_eq_false_iff_ne.mpr (fun h => hi1 ⟨hc, h⟩)
      rw [hf]
      exact hj
    · rw [if_neg hc]
      exact hj
/-- Till it is found. -/
theorem seek_at (term vote base bt n0 n1 n2 n3 : Int) (snap n4 : ByteArray) (es : List S75) (hb0 : 0 ≤ base) (hb1 : base ≤ 1099511627776) (hl : es.length ≤ 1024) (q : Nat) (hq : base + q + 1 = n1) (hql : q < es.length) (ht : (rd_T75 es q).f0 = n2) :
    ∀ (d i : Nat) (k : Nat), q - i = d → i ≤ q → es.length + es.length + d + d + 4 < k →
      ferruleref04_Step.l1 k [] false (i : Int) term vote base bt snap es n0 n1 n2 n3 n4 base bt snap es = some (term, vote, n1, n2, n4, es.drop (q + 1))
  | 0, i, k, hd, hi, hkk => by
    obtain ⟨k, rfl⟩ : ∃ j, k = j + 1 + 1 := ⟨k - 2, by omega⟩
    obtain rfl : i = q := by omega
    have ih := seek_all term vote base bt n0 n1 n2 n3 snap n4 es hb0 hb1 hl (es.length - (i + 1)) (i + 1) [] k rfl (by omega) (by simp) (by omega) (by omega)
    simp only [ferruleref04_Step.l1]
    rw [if_pos (by omega), wu (x := (i : Int)) (by omega) (by omega), wu (x := base + (i : Int)) (by omega) (by omega), wu (x := base + (i : Int) + 1) (by omega) (by omega), if_pos hq, if_pos (by omega), beq_iff_eq.mpr ht]
    simp only [ferruleref04_Step.j3]
    rw [if_pos True.intro, wi (x := (i : Int) + 1) (by omega) (by omega), show ((i : Int) + 1) = ((i + 1 : Nat) : Int) by omega, ih]
    rfl
  | d + 1, i, k, hd, hi, hkk => by
    obtain ⟨k, rfl⟩ : ∃ j, k = j + 1 + 1 := ⟨k - 2, by omega⟩
    have ih := seek_at term vote base bt n0 n1 n2 n3 snap n4 es hb0 hb1 hl q hq hql ht d (i + 1) k (by omega) (by omega) (by omega)
    simp only [ferruleref04_Step.l1]
    rw [if_pos (by omega), wu (x := (i : Int)) (by omega) (by omega), wu (x := base + (i : Int)) (by omega) (by omega), wu (x := base + (i : Int) + 1) (by omega) (by omega), if_neg (by omega)]
    simp only [ferruleref04_Step.j3]
    rw [if_neg (by decide), if_neg (by omega), wi (x := (i : Int) + 1) (by omega) (by omega), show ((i : Int) + 1) = ((i + 1 : Nat) : Int) by omega, ih]
/-- The document's step is the plain one. -/
theorem rstep_f (s : NSt) (n : S39) (hs : okS s) (hn : okN n = true) (k : Nat) (hk : 6000 ≤ k) : ferruleref04_Step.f k s.term s.vote s.base s.bt s.snap s.es n.f0 n.f1 n.f2 n.f3 n.f4 = some (stepN s n).tup := by
  obtain ⟨h0, h1⟩ := (okN_iff n).1 hn
  obtain ⟨hb0, hb1, hl⟩ := hs
  obtain ⟨term, vote, base, bt, snap, es⟩ := s
  obtain ⟨n0, n1, n2, n3, n4⟩ := n
  dsimp only at h0 h1 hb0 hb1 hl ⊢
  unfold ferruleref04_Step.f stepN
  dsimp only
  by_cases c1 : n0 = 1
  · rw [if_pos c1, if_pos c1]
    rfl
  rw [if_neg c1, if_neg c1]
  by_cases c2 : n0 = 2
  · rw [if_pos c2, if_pos c2]
    unfold ferruleref04_Last.f
    rw [wu (x := (es.length : Int)) (by omega) (by omega), wu (x := base + (es.length : Int)) (by omega) (by omega)]
    simp only [Option.bind_some]
    rw [wu (x := base + (es.length : Int) + 1) (by omega) (by omega)]
    by_cases hi : isNext ⟨term, vote, base, bt, snap, es⟩ ⟨n0, n1, n2, n3, n4⟩
    · obtain ⟨i1, i2, i3⟩ := hi
      dsimp only at i1 i2 i3
      rw [if_pos i1, if_pos (by omega), if_pos i3, if_pos (by simp; omega), if_pos (by simp; omega), if_pos (show isNext _ _ from ⟨i1, i2, i3⟩)]
      rfl
    · rw [if_neg hi]
      have : ¬ (n1 = base + (es.length : Int) + 1 ∧ (es.length : Int) < 1024 ∧ n1 ≤ 1099511627776) := fun h => hi ⟨h.1, by have := h.2.1; dsimp only; omega, h.2.2⟩
      by_cases a1 : n1 = base + (es.length : Int) + 1
      · rw [if_pos a1]
        by_cases a2 : (es.length : Int) < 1024
        · rw [if_pos a2, if_neg (fun a3 => this ⟨a1, a2, a3⟩)]
          rfl
        · rw [if_neg a2]
          rfl
      · rw [if_neg a1]
        rfl
  rw [if_neg c2, if_neg c2]
  by_cases c3 : n0 = 3
  · rw [if_pos c3, if_pos c3]
    have := cut_loop term vote base bt n0 n1 n2 n3 snap n4 es hb0 hb1 hl (cutN ⟨term, vote, base, bt, snap, es⟩ ⟨n0, n1, n2, n3, n4⟩) (fun i hi => by unfold cutN; dsimp only; split <;> omega) es.length 0 [] k (by omega) (by omega) (by simp) (by omega)
    rw [show (0 : Int) = ((0 : Nat) : Int) from rfl, this]
    rfl
  rw [if_neg c3, if_neg c3]
  by_cases c4 : n0 = 4
  · rw [if_pos c4, if_pos c4]
    obtain ⟨k, rfl⟩ : ∃ j, k = j + 1 := ⟨k - 1, by omega⟩
    simp only [ferruleref04_Step.j1]
    by_cases hq : n1 ≤ base ∨ n1 > 1099511627776
    · have e1 : behindN ⟨term, vote, base, bt, snap, es⟩ ⟨n0, n1, n2, n3, n4⟩ = ⟨term, vote, base, bt, snap, es⟩ := if_pos hq
      rw [e1]
      by_cases a1 : n1 ≤ base
      · rw [if_pos a1, if_pos True.intro]
        rfl
      · rw [if_neg a1, if_pos (decide_eq_true (by omega))]
        rfl
    · have a1 : ¬ n1 ≤ base := fun h => hq (.inl h)
      have a2 : ¬ n1 > 1099511627776 := fun h => hq (.inr h)
      have e1 : behindN ⟨term, vote, base, bt, snap, es⟩ ⟨n0, n1, n2, n3, n4⟩ = ⟨term, vote, n1, n2, n4, if hasAt ⟨term, vote, base, bt, snap, es⟩ ⟨n0, n1, n2, n3, n4⟩ then es.drop (n1 - base).toNat else []⟩ := if_neg hq
      rw [e1, if_neg a1, if_neg (by rw [decide_eq_true_iff]; exact a2)]
      by_cases hh : hasAt ⟨term, vote, base, bt, snap, es⟩ ⟨n0, n1, n2, n3, n4⟩
      · rw [if_pos hh]
        obtain ⟨g1, g2⟩ := hh
        dsimp only at g1 g2
        obtain ⟨q, hq2⟩ : ∃ q : Nat, n1 - base - 1 = (q : Int) := ⟨(n1 - base - 1).toNat, by omega⟩
        rw [hq2] at g2
        have := seek_at term vote base bt n0 n1 n2 n3 snap n4 es hb0 hb1 hl q (by omega) (by omega) g2 q 0 k (by omega) (by omega) (by omega)
        rw [show (0 : Int) = ((0 : Nat) : Int) from rfl, this, show (n1 - base).toNat = q + 1 by omega]
        rfl
      · rw [if_neg hh]
        have := seek_none term vote base bt n0 n1 n2 n3 snap n4 es hb0 hb1 hl [] es.length 0 k (by omega) (by omega) (fun j _ hj h => hh ⟨by dsimp only; omega, by dsimp only; rw [show n1 - base - 1 = (j : Int) by omega]; exact h.2⟩) (by omega)
        rw [show (0 : Int) = ((0 : Nat) : Int) from rfl, this]
        rfl
  · rw [if_neg c4, if_neg c4]
    rfl
theorem rfold_l (l : List S39) (hl : l.length ≤ 4611686018427387904) (ha : l.all okN = true) : ∀ (r : List S39) (i : Nat) (s : NSt) (k : Nat), l.drop i = r → i ≤ l.length → okS s → r.length + 6000 < k →
      ferruleref04_Fold.l0 k l (i : Int) s.term s.vote s.base s.bt s.snap s.es = some (r.foldl stepN s).tup
  | [], i, s, k, hr, hi, hs, hk => by
    obtain ⟨k, rfl⟩ : ∃ j, k = j + 1 := ⟨k - 1, by omega⟩
    have := congrArg List.length hr
    rw [List.length_drop, List.length_nil] at this
    simp only [ferruleref04_Fold.l0]
    rw [if_neg (by omega)]
    rfl
  | x :: r, i, s, k, hr, hi, hs, hk => by
    obtain ⟨k, rfl⟩ : ∃ j, k = j + 1 := ⟨k - 1, by omega⟩
    have hlen := congrArg List.length hr
    rw [List.length_drop, List.length_cons] at hlen
    rw [List.length_cons] at hk
    have hil : i < l.length := by omega
    rw [List.drop_eq_getElem_cons hil] at hr
    injection hr with hx hr
    have hxa : okN x = true := List.all_eq_true.1 ha x (by rw [← hx]; exact List.getElem_mem _)
    have hrd : rd_T39 l (i : Int) = x := by
      rw [← hx]
      simp [rd_T39, List.getD_eq_getElem?_getD, hil]
    simp only [ferruleref04_Fold.l0]
    rw [if_pos (by omega), if_pos (by omega), hrd, rstep_f s x hs hxa k (by omega)]
    simp only [Option.bind_some]
    rw [wi (x := (i : Int) + 1) (by omega) (by omega), show ((i : Int) + 1) = ((i + 1 : Nat) : Int) by omega]
    exact rfold_l l hl ha r (i + 1) (stepN s x) k hr (by omega) (okS_step hs hxa) (by omega)
theorem rfold_f (l : List S39) (hl : l.length ≤ 4611686018427387904) (ha : l.all okN = true) (k : Nat) (hk : l.length + 6000 < k) : ferruleref04_Fold.f k l = some (foldN l).tup := by
  have := rfold_l l hl ha l 0 nst0 k (List.drop_zero) (by omega) okS_0 hk
  unfold ferruleref04_Fold.f
  exact this
end Go.Proofs.Ytfjhlcbpogihmaa.Pr
