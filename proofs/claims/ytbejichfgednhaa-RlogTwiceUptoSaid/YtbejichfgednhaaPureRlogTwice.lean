/- What was joined is had, and joined once more it changes nothing (the second form: arguments of bulk at most 1048576): proved of the printed function. Conditions: none. -/
import Derived.Test.YtbejichfgednhaaDefRlogTwice
namespace Go.Proofs.Ytbejichfgednhaa.Pr
open Go.RowKit Go.Proofs.YtbejichfgednhaaW.PrintWords Go.Proofs.YtbejichfgednhaaW.PrintLast Go.Proofs.YtbejichfgednhaaW.PrintMore
set_option linter.unusedVariables false
set_option linter.unusedSimpArgs false
theorem wrap64_big {x : Int} (h0 : 0 ≤ x) (h1 : x ≤ 4611686018427387905) : wrap64 x = x := by
  simp [wrap64]
  omega
theorem wrapU_in {x : Int} (h0 : 0 ≤ x) (h1 : x < 18446744073709551616) : IntKind.u64.wrap x = x := by
  simp [IntKind.wrap, IntKind.signed, IntKind.bits]
  omega
theorem ent_loop (l : List S36) (hl : l.length ≤ 4611686018427387904) : ∀ d k i, i + d = l.length → ferruleref05_Entries.l0 (k + d + 1) l l (i : Int) = some true
  | 0, k, i, hi => by
    show ferruleref05_Entries.l0 (k + 1) l l _ = _
    rw [ferruleref05_Entries.l0, if_neg (by omega)]
  | d + 1, k, i, hi => by
    show ferruleref05_Entries.l0 ((k + d + 1) + 1) l l _ = _
    rw [ferruleref05_Entries.l0, if_pos (by omega), if_pos (by omega), if_pos (by omega), if_neg (by simp), wrap64_big (by omega) (by omega)]
    exact ent_loop l hl d k (i + 1) (by omega)
theorem ent_ev (l : List S36) (hl : l.length ≤ 4611686018427387904) : Ev (fun k => ferruleref05_Entries.f k l l) true := by
  refine ⟨l.length + 1, fun k hk => ?_⟩
  have hk2 : k = (k - l.length - 1) + l.length + 1 := by omega
  dsimp only
  unfold ferruleref05_Entries.f
  rw [if_pos rfl, hk2]
  exact ent_loop l hl l.length (k - l.length - 1) 0 (by omega)
theorem same_ev (b t : Int) (x : ByteArray) (l : List S36) (hl : l.length ≤ 4611686018427387904) : Ev (fun k => ferruleref05_Same.f k b t x l b t x l) true := by
  unfold ferruleref05_Same.f
  refine Ev.bind (ent_ev l hl) ?_
  simpa using Ev.now true
/-- The term at an index, and whether it is had. -/
def tAt (b t : Int) (l : List S36) (i : Int) : Int × Bool := if i = b then (t, true) else if i ≤ b then (0, false) else if i - b ≤ l.length then ((rd_T36 l (i - b - 1)).f0, true) else (0, false)
theorem term_f (b t : Int) (x : ByteArray) (l : List S36) (i : Int) (hl : l.length ≤ 4194304) (hb : 0 ≤ b) (hi0 : 0 ≤ i) (hi : i < 18446744073709551616) : rlog_TermAt.f b t x l i = some (tAt b t l i) := by
  unfold rlog_TermAt.f rlog_at.f tAt
  by_cases h : i = b
  · rw [if_pos h, if_pos h]
  · rw [if_neg h, if_neg h]
    by_cases h0 : i ≤ b
    · rw [if_pos h0, if_pos h0]
      rfl
    · rw [if_neg h0, if_neg h0, wrapU_in (x := i - b) (by omega) (by omega), wrapU_in (x := (l.length : Int)) (by omega) (by omega)]
      by_cases c : i - b ≤ l.length
      · rw [if_neg (by omega), if_pos c, wrapU_in (by omega) (by omega), wrap64_big (by omega) (by omega)]
        simp only [Option.bind_some]
        rw [if_pos True.intro, if_pos (by omega), if_pos (by omega)]
      · rw [if_pos (by omega), if_neg c]
        rfl
/-- Is the k-th of e had behind p? -/
def hasE (b t : Int) (l : List S36) (p : Int) (e : List S36) (k : Nat) : Bool := (tAt b t l (p + k + 1)).2 && ((tAt b t l (p + k + 1)).1 == (rd_T36 e k).f0)
abbrev JR := Int × Int × ByteArray × (List S36) × Int × Bool
def joinL (b t : Int) (x : ByteArray) (l : List S36) (p : Int) (e : List S36) : Nat → Nat → JR
  | 0, _ => (b, t, x, l, 0, true)
  | d + 1, k => if hasE b t l p e k = true then joinL b t x l p e d (k + 1) else
    if ((l.take (p + k - b).toNat ++ e.drop k).length : Int) > 1024 then (b, t, x, l, 0, false) else if b + ((l.take (p + k - b).toNat ++ e.drop k).length : Int) > 1099511627776 then (b, t, x, l, 0, false) else (b, t, x, l.take (p + k - b).toNat ++ e.drop k, p + k + 1, true)
theorem joinL_ev (b t : Int) (x : ByteArray) (l : List S36) (p : Int) (e : List S36) (hl : l.length ≤ 4194304) (he : e.length ≤ 4194304) (hb : 0 ≤ b) (hb2 : b ≤ 1099511627776) (d : Nat) : ∀ k : Nat, k + d = e.length → b ≤ p → p + k - b ≤ l.length →
    Ev (fun q => rlog_Join.l0 q p e e (e.length : Int) (k : Int) b t x l) (joinL b t x l p e d k) := by
  induction d with
  | zero =>
    intro k hk hp hpl
    exact Ev.step (f := fun _ => some (b, t, x, l, 0, true)) (fun q => by rw [rlog_Join.l0, if_neg (by omega)]) (Ev.now _)
  | succ d ih =>
    intro k hk hp hpl
    have e1 : IntKind.u64.wrap (IntKind.u64.wrap (p + IntKind.u64.wrap (k : Int)) + 1) = p + k + 1 := by
      rw [wrapU_in (x := (k : Int)) (by omega) (by omega), wrapU_in (x := p + (k : Int)) (by omega) (by omega), wrapU_in (by omega) (by omega)]
    have ew : wrap64 ((k : Int) + 1) = ((k + 1 : Nat) : Int) := by rw [wrap64_big (by omega) (by omega)]; omega
    rw [joinL]
    have hg : ∀ v : Bool, v = hasE b t l p e k → Ev (fun q => rlog_Join.j3 q p e (k : Int) (p + k + 1) e (e.length : Int) (k : Int) v b t x l) (joinL b t x l p e (d + 1) k) := by
      intro v hv
      rw [joinL]
      subst hv
      cases hh : hasE b t l p e k with
      | true =>
        rw [if_pos rfl]
        have hpl2 : p + (k + 1 : Nat) - b ≤ l.length := by
          unfold hasE tAt at hh
          rw [if_neg (by omega), if_neg (by omega)] at hh
          by_cases c : p + k + 1 - b ≤ l.length
          · omega
          · rw [if_neg c] at hh
            simp at hh
        exact Ev.step (f := fun q => rlog_Join.l0 q p e e (e.length : Int) ((k + 1 : Nat) : Int) b t x l) (fun q => by rw [rlog_Join.j3, if_pos rfl, ew]) (ih (k + 1) (by omega) hp hpl2)
      | false =>
        rw [if_neg (by decide)]
        have en : wrap64 (IntKind.u64.wrap (IntKind.u64.wrap (p + k + 1 - b) - 1)) = p + k - b := by
          rw [wrapU_in (x := p + k + 1 - b) (by omega) (by omega), wrapU_in (by omega) (by omega), wrap64_big (by omega) (by omega)]
          omega
        have hown : rlog_own.f b t x l (p + k - b) = some (l.take (p + k - b).toNat) := by
          unfold rlog_own.f slices_Clone.f
          rw [if_pos ⟨by omega, by omega⟩, if_pos (by rw [List.length_take]; omega)]
        refine Ev.step (f := fun _ => some (if ((l.take (p + k - b).toNat ++ e.drop k).length : Int) > 1024 then (b, t, x, l, 0, false) else if b + ((l.take (p + k - b).toNat ++ e.drop k).length : Int) > 1099511627776 then (b, t, x, l, 0, false) else (b, t, x, l.take (p + k - b).toNat ++ e.drop k, p + k + 1, true))) (fun q => ?_) (Ev.now _)
        rw [rlog_Join.j3, if_neg (by decide), en, hown]
        simp only [Option.bind_some]
        rw [if_pos (by omega), if_pos (by omega), Int.toNat_natCast, if_pos (by rw [List.length_take, List.length_drop]; omega)]
        generalize hy : l.take (p + k - b).toNat ++ e.drop k = y
        have hyl : y.length ≤ 8388608 := by
          rw [← hy, List.length_append, List.length_take, List.length_drop]
          omega
        by_cases c1 : (y.length : Int) > 1024
        · rw [if_pos c1, if_pos c1]
        · rw [if_neg c1, if_neg c1, wrapU_in (x := (y.length : Int)) (by omega) (by omega), wrapU_in (by omega) (by omega)]
          by_cases c2 : b + (y.length : Int) > 1099511627776
          · rw [if_pos c2, if_pos c2]
          · rw [if_neg c2, if_neg c2]
            rfl
    have hg2 := hg (hasE b t l p e k) rfl
    rw [joinL] at hg2
    refine Ev.step (f := fun q => rlog_Join.j3 q p e (k : Int) (p + k + 1) e (e.length : Int) (k : Int) (hasE b t l p e k) b t x l) (fun q => ?_) hg2
    rw [rlog_Join.l0, if_pos (by omega), if_pos (by omega), if_pos (by omega), e1, term_f b t x l _ hl hb (by omega) (by omega)]
    simp only [Option.bind_some]
    unfold hasE
    cases (tAt b t l (p + k + 1)).2 with
    | true => rw [if_pos rfl, Bool.true_and]
    | false => rw [if_neg (by decide), Bool.false_and]
def joinJ (b t : Int) (x : ByteArray) (l : List S36) (p u : Int) (e : List S36) : JR := if ((tAt b t l p).2 && ((tAt b t l p).1 == u)) = true then joinL b t x l p e e.length 0 else (b, t, x, l, 0, false)
theorem tAt_le {b t : Int} {l : List S36} {p : Int} (h : (tAt b t l p).2 = true) : b ≤ p ∧ p - b ≤ l.length := by
  unfold tAt at h
  by_cases h0 : p = b
  · omega
  · rw [if_neg h0] at h
    by_cases h1 : p ≤ b
    · rw [if_pos h1] at h; cases h
    · rw [if_neg h1] at h
      by_cases h2 : p - b ≤ l.length
      · omega
      · rw [if_neg h2] at h; cases h
theorem joinJ_ev (b t : Int) (x : ByteArray) (l : List S36) (p u : Int) (e : List S36) (hl : l.length ≤ 4194304) (he : e.length ≤ 4194304) (hb : 0 ≤ b) (hb2 : b ≤ 1099511627776) (hp0 : 0 ≤ p) (hp : p < 18446744073709551616) :
    Ev (fun q => rlog_Join.j0 q p u e b t x l) (joinJ b t x l p u e) := by
  have hg : ∀ v : Bool, (!v) = ((tAt b t l p).2 && ((tAt b t l p).1 == u)) → Ev (fun q => rlog_Join.j1 q p e v b t x l) (joinJ b t x l p u e) := by
    intro v hv
    unfold joinJ
    rw [← hv]
    cases v with
    | true => exact Ev.step (f := fun _ => some (b, t, x, l, 0, false)) (fun q => by rw [rlog_Join.j1, if_pos rfl]) (Ev.now _)
    | false =>
      rw [if_pos (by rfl)]
      have h2 : (tAt b t l p).2 = true := by
        have : ((tAt b t l p).2 && ((tAt b t l p).1 == u)) = true := by rw [← hv]; rfl
        rw [Bool.and_eq_true] at this
        exact this.1
      obtain ⟨h3, h4⟩ := tAt_le h2
      exact Ev.step (f := fun q => rlog_Join.l0 q p e e (e.length : Int) ((0 : Nat) : Int) b t x l) (fun q => by rw [rlog_Join.j1, if_neg (by decide)]; rfl) (joinL_ev b t x l p e hl he hb hb2 e.length 0 (by omega) h3 (by omega))
  cases h2 : (tAt b t l p).2 with
  | true =>
    refine Ev.step (f := fun q => rlog_Join.j1 q p e ((tAt b t l p).1 != u) b t x l) (fun q => ?_) (hg _ (by rw [h2, Bool.true_and]; simp [bne]))
    rw [rlog_Join.j0, term_f b t x l _ hl hb hp0 hp]
    simp only [Option.bind_some]
    rw [if_pos h2]
  | false =>
    refine Ev.step (f := fun q => rlog_Join.j1 q p e true b t x l) (fun q => ?_) (hg _ (by rw [h2]; rfl))
    rw [rlog_Join.j0, term_f b t x l _ hl hb hp0 hp]
    simp only [Option.bind_some]
    rw [if_neg (by rw [h2]; decide)]
/-- Where all are had nothing is joined. -/
theorem joinL_all (b t : Int) (x : ByteArray) (l : List S36) (p : Int) (e : List S36) : ∀ d k : Nat, k + d = e.length → (∀ j : Nat, j < e.length → hasE b t l p e j = true) → joinL b t x l p e d k = (b, t, x, l, 0, true)
  | 0, k, _, _ => rfl
  | d + 1, k, hk, h => by
    rw [joinL, if_pos (h k (by omega))]
    exact joinL_all b t x l p e d (k + 1) (by omega) h
/-- What a join leaves. -/
structure Left (b t : Int) (l : List S36) (p : Int) (e : List S36) (a : List S36) : Prop where
  len : a.length ≤ 4194304
  at_ : tAt b t a p = tAt b t l p
  has : ∀ j : Nat, j < e.length → hasE b t a p e j = true
  ahead : a.take (p - b).toNat = l.take (p - b).toNat
  long : p - b ≤ a.length
theorem rd_app1 {l r : List S36} {i : Nat} (h : i < l.length) : rd_T36 (l ++ r) (i : Int) = rd_T36 l (i : Int) := by
  unfold rd_T36
  simp [List.getD_eq_getElem?_getD, List.getElem?_append_left h]
theorem rd_app2 {l r : List S36} {i j : Nat} (h : i = l.length + j) : rd_T36 (l ++ r) (i : Int) = rd_T36 r (j : Int) := by
  subst h
  unfold rd_T36
  rw [Int.toNat_natCast, Int.toNat_natCast, List.getD_eq_getElem?_getD, List.getD_eq_getElem?_getD, List.getElem?_append_right (by omega)]
  simp
theorem rd_take {l : List S36} {n i : Nat} (h : i < n) : rd_T36 (l.take n) (i : Int) = rd_T36 l (i : Int) := by
  unfold rd_T36
  simp [List.getD_eq_getElem?_getD, List.getElem?_take, h]
theorem rd_drop {l : List S36} {n i : Nat} : rd_T36 (l.drop n) (i : Int) = rd_T36 l ((n + i : Nat) : Int) := by
  unfold rd_T36
  simp only [Int.toNat_natCast, List.getD_eq_getElem?_getD, List.getElem?_drop]
theorem joinL_left (b t : Int) (x : ByteArray) (l : List S36) (p : Int) (e : List S36) (hl : l.length ≤ 4194304) (hp : b ≤ p) : ∀ d k : Nat, k + d = e.length → p + k - b ≤ l.length → (∀ j : Nat, j < k → hasE b t l p e j = true) →
    joinL b t x l p e d k = (b, t, x, l, 0, false) ∨ ∃ a i, joinL b t x l p e d k = (b, t, x, a, i, true) ∧ Left b t l p e a
  | 0, k, hk, hpl, h => .inr ⟨l, 0, rfl, ⟨hl, rfl, fun j hj => h j (by omega), rfl, by omega⟩⟩
  | d + 1, k, hk, hpl, h => by
    rw [joinL]
    cases hh : hasE b t l p e k with
    | true =>
      rw [if_pos rfl]
      have hpl2 : p + (k + 1 : Nat) - b ≤ l.length := by
        unfold hasE at hh
        rw [Bool.and_eq_true] at hh
        have := (tAt_le hh.1).2
        omega
      refine joinL_left b t x l p e hl hp d (k + 1) (by omega) hpl2 (fun j hj => ?_)
      by_cases hjk : j = k
      · rw [hjk]; exact hh
      · exact h j (by omega)
    | false =>
      rw [if_neg (by decide)]
      obtain ⟨n, hn⟩ : ∃ n : Nat, p + k - b = (n : Int) := ⟨(p + k - b).toNat, by omega⟩
      obtain ⟨m, hm⟩ : ∃ m : Nat, p - b = (m : Int) := ⟨(p - b).toNat, by omega⟩
      rw [hn, Int.toNat_natCast]
      have hnl : n ≤ l.length := by omega
      have hnm : n = m + k := by omega
      by_cases c1 : ((l.take n ++ e.drop k).length : Int) > 1024
      · rw [if_pos c1]; exact .inl rfl
      · rw [if_neg c1]
        by_cases c2 : b + ((l.take n ++ e.drop k).length : Int) > 1099511627776
        · rw [if_pos c2]; exact .inl rfl
        · rw [if_neg c2]
          have hlen : (l.take n ++ e.drop k).length = n + (e.length - k) := by
            rw [List.length_append, List.length_take, List.length_drop, Nat.min_eq_left hnl]
          have hlt : (l.take n).length = n := by rw [List.length_take, Nat.min_eq_left hnl]
          refine .inr ⟨_, _, rfl, ⟨by omega, ?_, fun j hj => ?_, ?_, by omega⟩⟩
          · unfold tAt
            by_cases h0 : p = b
            · rw [if_pos h0, if_pos h0]
            · rw [if_neg h0, if_neg h0, if_neg (by omega), if_pos (by omega), if_neg (by omega), if_pos (by omega)]
              rw [show p - b - 1 = ((m - 1 : Nat) : Int) from by omega, rd_app1 (by omega), rd_take (by omega)]
          · unfold hasE tAt
            rw [if_neg (by omega), if_neg (by omega), if_pos (by omega), show p + (j : Int) + 1 - b - 1 = ((m + j : Nat) : Int) from by omega]
            by_cases hjk : j < k
            · have := h j hjk
              unfold hasE tAt at this
              rw [if_neg (by omega), if_neg (by omega), if_pos (by omega), show p + (j : Int) + 1 - b - 1 = ((m + j : Nat) : Int) from by omega] at this
              rw [rd_app1 (by omega), rd_take (by omega)]
              exact this
            · rw [rd_app2 (j := j - k) (by omega), rd_drop, show k + (j - k) = j from by omega]
              simp
          · rw [hm, Int.toNat_natCast, List.take_append_of_le_length (by omega), List.take_take, Nat.min_eq_left (by omega)]
theorem joinJ_left (b t : Int) (x : ByteArray) (l : List S36) (p u : Int) (e : List S36) (hl : l.length ≤ 4194304) :
    joinJ b t x l p u e = (b, t, x, l, 0, false) ∨ (b ≤ p ∧ p - b ≤ l.length ∧ ∃ a i, joinJ b t x l p u e = (b, t, x, a, i, true) ∧ Left b t l p e a ∧ joinJ b t x a p u e = (b, t, x, a, 0, true)) := by
  unfold joinJ
  by_cases h : ((tAt b t l p).2 && ((tAt b t l p).1 == u)) = true
  · rw [if_pos h]
    have h2 := h
    rw [Bool.and_eq_true] at h2
    obtain ⟨h3, h4⟩ := tAt_le h2.1
    rcases joinL_left b t x l p e hl h3 e.length 0 (by omega) (by omega) (fun j hj => by omega) with hh | ⟨a, i, hh, hL⟩
    · exact .inl hh
    · refine .inr ⟨h3, h4, a, i, hh, hL, ?_⟩
      rw [hL.at_, if_pos h]
      exact joinL_all b t x a p e e.length 0 (by omega) hL.has
  · rw [if_neg h]
    exact .inl rfl
/-- What is joined where the index is ahead of the base. -/
def cutE (b p : Int) (e : List S36) : List S36 := if p < b then e.drop (mn (IntKind.u64.wrap (b - p)) (IntKind.u64.wrap (e.length : Int))).toNat else e
theorem cutE_len (b p : Int) (e : List S36) : (cutE b p e).length ≤ e.length := by
  unfold cutE
  split
  · rw [List.length_drop]; omega
  · exact Nat.le_refl _
theorem mn_le {a b : Int} (ha : 0 ≤ a) (hb : 0 ≤ b) : 0 ≤ mn a b ∧ mn a b ≤ b := by
  unfold mn
  split <;> omega
theorem join_j0 (k : Nat) (b t : Int) (x : ByteArray) (l : List S36) (p u : Int) (e : List S36) (he : e.length ≤ 4194304) (hb : 0 ≤ b) (hb2 : b ≤ 1099511627776) (hp0 : 0 ≤ p) :
    rlog_Join.f k b t x l p u e = rlog_Join.j0 k (if p < b then b else p) (if p < b then t else u) (cutE b p e) b t x l := by
  unfold rlog_Join.f cutE
  by_cases h : p < b
  · rw [if_pos h, if_pos h, if_pos h, if_pos h]
    have hm := mn_le (a := IntKind.u64.wrap (b - p)) (b := IntKind.u64.wrap (e.length : Int)) (by rw [wrapU_in (by omega) (by omega)]; omega) (by rw [wrapU_in (by omega) (by omega)]; omega)
    have h2 : mn (IntKind.u64.wrap (b - p)) (IntKind.u64.wrap (e.length : Int)) ≤ (e.length : Int) := by
      have := hm.2
      rw [wrapU_in (x := (e.length : Int)) (by omega) (by omega)] at this ⊢
      exact this
    rw [if_pos hm.1, if_pos h2]
  · rw [if_neg h, if_neg h, if_neg h, if_neg h]
theorem join_ev (b t : Int) (x : ByteArray) (l : List S36) (p u : Int) (e : List S36) (hl : l.length ≤ 4194304) (he : e.length ≤ 4194304) (hb : 0 ≤ b) (hb2 : b ≤ 1099511627776) (hp0 : 0 ≤ p) (hp : p < 18446744073709551616) :
    Ev (fun k => rlog_Join.f k b t x l p u e) (joinJ b t x l (if p < b then b else p) (if p < b then t else u) (cutE b p e)) :=
  Ev.congr (fun k => join_j0 k b t x l p u e he hb hb2 hp0) (joinJ_ev b t x l _ _ _ hl (Nat.le_trans (cutE_len b p e) he) hb hb2 (by split <;> omega) (by split <;> omega))
/-- Behind the two joins: the terms are told. -/
theorem tell_ev (b t : Int) (x : ByteArray) (l a : List S36) (p : Int) (e : List S36) (hL : Left b t l p e a) (he : e.length ≤ 4194304) (hb : 0 ≤ b) (hb2 : b ≤ 1099511627776) (hp : b ≤ p) (d : Nat) : ∀ k : Nat, k + d = e.length →
    Ev (fun q => ferrulelaw05_RlogTwice.l0 q p e true true (k : Int) b t x l b t x a) true := by
  induction d with
  | zero =>
    intro k hk
    refine Ev.step (f := fun _ => some true) (fun q => ?_) (Ev.now true)
    rw [ferrulelaw05_RlogTwice.l0, if_neg (by omega), if_pos rfl, if_pos rfl, if_pos rfl]
    simp
  | succ d ih =>
    intro k hk
    have hlo := hL.long
    have hal := hL.len
    have h := hL.has k (by omega)
    have e1 : IntKind.u64.wrap (IntKind.u64.wrap (p + 1) + IntKind.u64.wrap (k : Int)) = p + k + 1 := by
      rw [wrapU_in (x := (k : Int)) (by omega) (by omega), wrapU_in (x := p + 1) (by omega) (by omega), wrapU_in (by omega) (by omega)]
      omega
    have ew : wrap64 ((k : Int) + 1) = ((k + 1 : Nat) : Int) := by rw [wrap64_big (by omega) (by omega)]; omega
    unfold hasE at h
    rw [Bool.and_eq_true] at h
    refine Ev.step (fun q => ?_) (ih (k + 1) (by omega))
    rw [ferrulelaw05_RlogTwice.l0, if_pos (by omega), e1, term_f b t x a _ hal hb (by omega) (by omega)]
    simp only [Option.bind_some]
    rw [if_pos h.1, if_pos (by omega), if_pos (beq_iff_eq.1 h.2), ew]
end Go.Proofs.Ytbejichfgednhaa.Pr
namespace Go.Proofs.Ytbejichfgednhaa.Pure
open Go.RowKit Go.Proofs.Ytbejichfgednhaa.Pr Go.Proofs.YtbejichfgednhaaW.PrintWords Go.Proofs.YtbejichfgednhaaW.PrintLast Go.Proofs.YtbejichfgednhaaW.PrintMore
theorem u64_of {x : Int} (h : (Lit.int .u64 x).wf = true) : 0 ≤ x ∧ x < 18446744073709551616 := by
  have h : (decide (IntKind.u64.min ≤ x) && decide (x ≤ IntKind.u64.max)) = true := h
  have hm : IntKind.u64.min = 0 := by decide
  have hM : IntKind.u64.max = 18446744073709551615 := by decide
  rw [Bool.and_eq_true, decide_eq_true_iff, decide_eq_true_iff, hm, hM] at h
  omega
theorem RlogTwice : ferrulelaw05_RlogTwice.Pure := by
  intro b t x l p u e ⟨⟨hb, ht, hx, hl1, hl, _⟩, hp, hu, he1, he, _⟩
  replace hb : 0 ≤ b ∧ b < 18446744073709551616 := u64_of hb
  replace hp : 0 ≤ p ∧ p < 18446744073709551616 := u64_of hp
  replace hl : l.length ≤ 1048576 := hl
  replace he : e.length ≤ 1048576 := he
  refine Ev.rounds ?_
  unfold ferrulelaw05_RlogTwice.f ferrulelaw05_shown.f
  simp only [Option.bind_some]
  by_cases hb2 : b > 1099511627776
  · simp only [if_pos hb2]
    exact Ev.now true
  · simp only [if_neg hb2]
    refine Ev.bind (join_ev b t x l p u e (by omega) (by omega) hb.1 (by omega) hp.1 hp.2) ?_
    rcases joinJ_left b t x l (if p < b then b else p) (if p < b then t else u) (cutE b p e) (by omega) with h | ⟨h1, h2, a, i, h, hL, hJ⟩
    · rw [h]
      refine Ev.congr (f := fun k => (ferruleref05_Same.f k b t x l b t x l).bind fun t150 => if True then some t150 else none) (fun k => by simp) ?_
      exact Ev.bind (same_ev b t x l (by omega)) (by simpa using Ev.now true)
    · rw [h]
      have hal := hL.len
      simp only [if_true]
      refine Ev.bind (join_ev b t x a p u e hal (by omega) hb.1 (by omega) hp.1 hp.2) ?_
      rw [hJ]
      refine Ev.bind (same_ev b t x a (by omega)) ?_
      simp only [if_true, Bool.not_true]
      by_cases hpb : p < b
      · refine Ev.step (f := fun k => ferrulelaw05_RlogTwice.j1 k p e true true b t x l b t x a) (fun k => by rw [ferrulelaw05_RlogTwice.j0, if_neg (by decide), if_pos hpb]) ?_
        exact Ev.step (f := fun _ => some true) (fun k => by rw [ferrulelaw05_RlogTwice.j1, if_pos rfl, if_pos rfl, decide_eq_true hpb]) (Ev.now true)
      · rw [if_neg hpb] at h1 h2 hL
        have hce : cutE b p e = e := by unfold cutE; rw [if_neg hpb]
        rw [hce] at hL
        have hlo := hL.long
        refine Ev.step (f := fun k => ferrulelaw05_RlogTwice.j1 k p e true false b t x l b t x a) (fun k => ?_) ?_
        · rw [ferrulelaw05_RlogTwice.j0, if_neg (by decide), if_neg hpb, wrapU_in (x := p - b) (by omega) (by omega), wrapU_in (x := (l.length : Int)) (by omega) (by omega), decide_eq_false (by omega)]
        · have en : wrap64 (IntKind.u64.wrap (p - b)) = p - b := by rw [wrapU_in (by omega) (by omega), wrap64_big (by omega) (by omega)]
          refine Ev.step (f := fun k => (ferruleref05_Entries.f k (l.take (p - b).toNat) (l.take (p - b).toNat)).bind fun t170 => ferrulelaw05_RlogTwice.l0 k p e true t170 0 b t x l b t x a) (fun k => ?_) ?_
          · rw [ferrulelaw05_RlogTwice.j1, if_neg (by decide), en, if_pos (by omega), if_pos (by omega), if_pos (by omega), hL.ahead]
          · refine Ev.bind (ent_ev _ (by rw [List.length_take]; omega)) ?_
            exact tell_ev b t x l a p e hL (by omega) hb.1 (by omega) h1 e.length 0 (by omega)
end Go.Proofs.Ytbejichfgednhaa.Pure
