/- The pure statement of the law BallotOne, proved. Conditions: none. -/
import Derived.Test.YtbjeoaklpcbocaaDefBallotOne
import Derived.Test.YtbjeoaklpcbocaaBallotL
namespace Go.Proofs.Ytbjeoaklpcbocaa.Pure
open Go Go.RowKit Go.Proofs.Ytbjeoaklpcbocaa.Pr Go.Proofs.YtbjeoaklpcbocaaW.PrintWords Go.Proofs.YtbjeoaklpcbocaaW.PrintLast Go.Proofs.YtbjeoaklpcbocaaW.PrintMore
/-- What stands behind n orders: a voter that is in an ask's list has voted for its node in the term, or is beyond it; a voter in two asks' lists has voted for one node. -/
structure Inv (vs : List Int) (asks : List S26) (term : Int) (seats : List S24) (ids : List (List Int)) (n : Nat) : Prop where
  ls : seats.length = vs.length
  li : ids.length = asks.length
  ln : ∀ a, (ids.getD a []).length ≤ n
  g : ∀ a j, j < vs.length → vs.getD j 0 ∈ ids.getD a [] → term < (seats.getD j z24).f0 ∨ ((seats.getD j z24).f0 = term ∧ (seats.getD j z24).f1 = (asks.getD a z26).f1 ∧ (asks.getD a z26).f1 ≠ 0)
  u : ∀ a b j, j < vs.length → vs.getD j 0 ∈ ids.getD a [] → vs.getD j 0 ∈ ids.getD b [] → (asks.getD a z26).f1 = (asks.getD b z26).f1
theorem getD_set {α : Type} (l : List α) (i j : Nat) (x z : α) : (l.set i x).getD j z = if i = j ∧ j < l.length then x else l.getD j z := by
  simp only [List.getD_eq_getElem?_getD, List.getElem?_set]
  by_cases h : i = j
  · subst h
    by_cases h2 : i < l.length
    · simp [h2]
    · simp [h2]
  · simp [h]
theorem Inv.keep {vs : List Int} {asks : List S26} {term : Int} {seats : List S24} {ids : List (List Int)} {n : Nat} (I : Inv vs asks term seats ids n) (v : Nat) (hv : v < vs.length) (t : S24)
    (h1 : term < (seats.getD v z24).f0 → term < t.f0) (h2 : (seats.getD v z24).f0 = term → (seats.getD v z24).f1 ≠ 0 → term < t.f0 ∨ (t.f0 = term ∧ t.f1 = (seats.getD v z24).f1)) : Inv vs asks term (seats.set v t) ids (n + 1) where
  ls := by rw [List.length_set]; exact I.ls
  li := I.li
  ln := fun a => Nat.le_succ_of_le (I.ln a)
  g := fun a j hj hm => by
    rw [getD_set]
    by_cases hvj : v = j
    · subst hvj
      rw [if_pos ⟨rfl, by rw [I.ls]; exact hv⟩]
      rcases I.g a v hj hm with h | ⟨e0, e1, e2⟩
      · exact .inl (h1 h)
      · rcases h2 e0 (by rw [e1]; exact e2) with h | ⟨f0, f1⟩
        · exact .inl h
        · exact .inr ⟨f0, f1.trans e1, e2⟩
    · rw [if_neg (fun h => hvj h.1)]
      exact I.g a j hj hm
  u := I.u
theorem Inv.same {vs : List Int} {asks : List S26} {term : Int} {seats : List S24} {ids : List (List Int)} {n : Nat} (I : Inv vs asks term seats ids n) : Inv vs asks term seats ids (n + 1) := ⟨I.ls, I.li, fun a => Nat.le_succ_of_le (I.ln a), I.g, I.u⟩
theorem Inv.grant {vs : List Int} {asks : List S26} {term : Int} {seats : List S24} {ids : List (List Int)} {n : Nat} (I : Inv vs asks term seats ids n) (hinj : ∀ i j, i < vs.length → j < vs.length → vs.getD i 0 = vs.getD j 0 → i = j) (v a : Nat) (hv : v < vs.length) (t : S24)
    (ht0 : t.f0 = term) (ht1 : t.f1 = (asks.getD a z26).f1) (hF : (asks.getD a z26).f1 ≠ 0)
    (hold : ∀ b, vs.getD v 0 ∈ ids.getD b [] → (asks.getD b z26).f1 = (asks.getD a z26).f1) :
    Inv vs asks term (seats.set v t) (ids.set a (ids.getD a [] ++ [vs.getD v 0])) (n + 1) := by
  have hmem : ∀ b j, j < vs.length → vs.getD j 0 ∈ (ids.set a (ids.getD a [] ++ [vs.getD v 0])).getD b [] → (v = j ∧ (asks.getD b z26).f1 = (asks.getD a z26).f1) ∨ (v ≠ j ∧ vs.getD j 0 ∈ ids.getD b []) := by
    intro b j hj hm
    rw [getD_set] at hm
    by_cases hvj : v = j
    · left
      subst hvj
      refine ⟨rfl, ?_⟩
      by_cases hab : a = b
      · subst hab; rfl
      · rw [if_neg (fun h => hab h.1)] at hm
        exact hold b hm
    · right
      refine ⟨hvj, ?_⟩
      by_cases hab : a = b ∧ b < ids.length
      · obtain ⟨rfl, hb⟩ := hab
        rw [if_pos ⟨rfl, hb⟩, List.mem_append] at hm
        rcases hm with hm | hm
        · exact hm
        · exact absurd (hinj j v hj hv (by simpa using hm)) (fun e => hvj e.symm)
      · rw [if_neg hab] at hm
        exact hm
  refine ⟨by rw [List.length_set]; exact I.ls, by rw [List.length_set]; exact I.li, ?_, ?_, ?_⟩
  · intro b
    rw [getD_set]
    split
    · rw [List.length_append, List.length_singleton]
      have := I.ln a
      omega
    · exact Nat.le_succ_of_le (I.ln b)
  · intro b j hj hm
    rw [getD_set]
    rcases hmem b j hj hm with ⟨rfl, e⟩ | ⟨hne, hm⟩
    · rw [if_pos ⟨rfl, by rw [I.ls]; exact hv⟩]
      exact .inr ⟨ht0, ht1.trans e.symm, by rw [e]; exact hF⟩
    · rw [if_neg (fun h => hne h.1)]
      exact I.g b j hj hm
  · intro b c j hj hb hc
    rcases hmem b j hj hb with ⟨rfl, e⟩ | ⟨hne, hb⟩
    · rcases hmem c v hj hc with ⟨_, e'⟩ | ⟨hne, _⟩
      · exact e.trans e'.symm
      · exact absurd rfl hne
    · rcases hmem c j hj hc with ⟨e', _⟩ | ⟨_, hc⟩
      · exact absurd e' hne
      · exact I.u b c j hj hb hc
/-- Two majorities of one list's voters: one node. -/
theorem Inv.one {vs : List Int} {asks : List S26} {term : Int} {seats : List S24} {ids : List (List Int)} {n : Nat} (I : Inv vs asks term seats ids n) {a b : Nat} (ha : mostB vs (ids.getD a []) = true) (hb : mostB vs (ids.getD b []) = true) : (asks.getD a z26).f1 = (asks.getD b z26).f1 := by
  obtain ⟨x, hx, h1, h2⟩ := most_both ha hb
  obtain ⟨j, hj, rfl⟩ := List.getElem_of_mem hx
  have e : vs.getD j 0 = vs[j] := by simp [List.getD_eq_getElem?_getD, hj]
  exact I.u a b j hj (by rw [e]; exact h1) (by rw [e]; exact h2)
section
variable {vs ls : List Int} {asks : List S26} {order : List Int} {term : Int}
abbrev L0 := @ferrulelaw07_BallotOne.l0
/-! the last two loops -/
theorem l4_ok {seats : List S24} {ids : List (List Int)} {n : Nat} (I : Inv vs asks term seats ids n) (hv : vs.length ≤ 7) (hnd : ∀ i, i < vs.length → ¬ rd vs (i : Int) ∈ vs.take i) (hn : n ≤ 9223372036854775807) (hA : asks.length ≤ 9223372036854775807)
    (i : Nat) (hi : i < asks.length) (hnext : ∃ k, ferrulelaw07_BallotOne.l3 k asks true ids ((i + 1 : Nat) : Int) vs ls = some true) :
    ∀ m j, j + m = i → ∃ k, ferrulelaw07_BallotOne.l4 k asks true ids (i : Int) (j : Int) vs ls = some true := by
  intro m
  induction m with
  | zero =>
    intro j hj
    obtain ⟨k, hk⟩ := hnext
    refine ⟨k + 1, ?_⟩
    simp only [ferrulelaw07_BallotOne.l4]
    rw [if_neg (by omega), w64s (m := asks.length) hi hA, hk]
  | succ m ih =>
    intro j hj
    obtain ⟨k1, h1⟩ := most_f vs ls (rd_L4 ids (i : Int)) hv (by have := I.ln i; simp only [rd_L4, Int.toNat_natCast]; omega) hnd
    obtain ⟨k2, h2⟩ := most_f vs ls (rd_L4 ids (j : Int)) hv (by have := I.ln j; simp only [rd_L4, Int.toNat_natCast]; omega) hnd
    obtain ⟨k3, h3⟩ := ih (j + 1) (by omega)
    have e1 := upK (f := fun k => ferruleref06_Most.f k vs ls (rd_L4 ids (i : Int))) (fun k => ferruleref06_Most.mono _ _ _ k) (show k1 ≤ k1 + k2 + k3 by omega) h1
    have e2 := upK (f := fun k => ferruleref06_Most.f k vs ls (rd_L4 ids (j : Int))) (fun k => ferruleref06_Most.mono _ _ _ k) (show k2 ≤ k1 + k2 + k3 by omega) h2
    have e3 := upK (f := fun k => ferrulelaw07_BallotOne.l4 k asks true ids (i : Int) ((j + 1 : Nat) : Int) vs ls) (fun k => (ferrulelaw07_BallotOne.mono_l k).2.2.2.2.2.2 _ _ _ _ _ _ _) (show k3 ≤ k1 + k2 + k3 by omega) h3
    refine ⟨k1 + k2 + k3 + 1, ?_⟩
    simp only [ferrulelaw07_BallotOne.l4]
    have hli := I.li
    rw [if_pos (by omega), if_pos (by omega), if_pos (by omega), e1]
    simp only [Option.bind_some]
    rw [if_pos (by omega), if_pos (by omega), e2]
    simp only [Option.bind_some]
    rw [w64s (n := j) (m := asks.length) (by omega) hA, e3]
    by_cases ha : mostB vs (rd_L4 ids (i : Int)) = true
    · rw [if_pos ha]
      by_cases hb : mostB vs (rd_L4 ids (j : Int)) = true
      · rw [if_pos hb, if_pos (by omega), if_pos (by omega)]
        have he := I.one (a := i) (b := j) (by simpa only [rd_L4, Int.toNat_natCast] using ha) (by simpa only [rd_L4, Int.toNat_natCast] using hb)
        rw [if_pos (by simpa only [rd_T26, Int.toNat_natCast] using he)]
      · rw [if_neg hb]
    · rw [if_neg ha]
theorem l3_ok {seats : List S24} {ids : List (List Int)} {n : Nat} (I : Inv vs asks term seats ids n) (hv : vs.length ≤ 7) (hnd : ∀ i, i < vs.length → ¬ rd vs (i : Int) ∈ vs.take i) (hn : n ≤ 9223372036854775807) (hA : asks.length ≤ 9223372036854775807) :
    ∀ m i, i + m = asks.length → ∃ k, ferrulelaw07_BallotOne.l3 k asks true ids (i : Int) vs ls = some true := by
  intro m
  induction m with
  | zero =>
    intro i hi
    refine ⟨1, ?_⟩
    simp only [ferrulelaw07_BallotOne.l3]
    rw [if_neg (by omega)]
  | succ m ih =>
    intro i hi
    obtain ⟨k, hk⟩ := l4_ok (ls := ls) I hv hnd hn hA i (by omega) (ih (i + 1) (by omega)) i 0 (by omega)
    refine ⟨k + 1, ?_⟩
    simp only [ferrulelaw07_BallotOne.l3]
    rw [if_pos (by omega)]
    exact hk
/-! the orders -/
theorem l2_ok (hv : vs.length ≤ 7) (hv1 : 1 ≤ vs.length) (hnd : ∀ i, i < vs.length → ¬ rd vs (i : Int) ∈ vs.take i) (hinj : ∀ i j, i < vs.length → j < vs.length → vs.getD i 0 = vs.getD j 0 → i = j) (hA : asks.length ≤ 9223372036854775807) (hO : order.length < 17592186044416) :
    ∀ m i seats ids, i + m = order.length → Inv vs asks term seats ids i → ∃ k, ferrulelaw07_BallotOne.l2 k asks order term true seats ids (i : Int) vs ls = some true := by
  intro m
  induction m with
  | zero =>
    intro i seats ids hi I
    obtain ⟨k, hk⟩ := l3_ok (ls := ls) I hv hnd (by omega) hA asks.length 0 (by omega)
    refine ⟨k + 2, ?_⟩
    simp only [ferrulelaw07_BallotOne.l2]
    rw [if_neg (by omega)]
    simp only [ferrulelaw07_BallotOne.j3]
    rw [if_neg (by decide)]
    exact hk
  | succ m ih =>
    intro i seats ids hi I
    by_cases h0 : asks.length = 0
    · obtain ⟨k, hk⟩ := l3_ok (ls := ls) I hv hnd (by omega) hA asks.length 0 (by omega)
      refine ⟨k + 2, ?_⟩
      simp only [ferrulelaw07_BallotOne.l2]
      rw [if_pos (by omega), decide_eq_false (by omega)]
      simp only [ferrulelaw07_BallotOne.j3]
      rw [if_neg (by decide)]
      exact hk
    have hw : wrap64 ((i : Int) + 1) = ((i + 1 : Nat) : Int) := w64s (m := order.length) (by omega) (by omega)
    have hsl := I.ls
    have hil := I.li
    obtain ⟨A, hAe⟩ : ∃ A, A = Int.tmod (rd order (i : Int)) (asks.length : Int) := ⟨_, rfl⟩
    obtain ⟨V, hVe⟩ : ∃ V, V = Int.tmod (wrap64 (Int.tdiv (rd order (i : Int)) 7)) (seats.length : Int) := ⟨_, rfl⟩
    have hAl : A < asks.length := by rw [hAe]; exact Int.tmod_lt_of_pos _ (by omega)
    have hVl : V < seats.length := by rw [hVe]; exact Int.tmod_lt_of_pos _ (by omega)
    by_cases hskip : A < 0 ∨ V < 0
    · obtain ⟨k, hk⟩ := ih (i + 1) seats ids (by omega) I.same
      refine ⟨k + 3, ?_⟩
      simp only [ferrulelaw07_BallotOne.l2]
      rw [if_pos (by omega), decide_eq_true (by omega)]
      simp only [ferrulelaw07_BallotOne.j3]
      rw [if_pos trivial, if_pos (by omega), if_pos (by omega), if_neg (by omega), if_neg (by omega), ← hAe, ← hVe]
      rcases hskip with h | h
      · rw [if_pos h]
        simp only [ferrulelaw07_BallotOne.j4]
        rw [if_pos trivial, hw]
        exact hk
      · rw [decide_eq_true h]
        split
        · simp only [ferrulelaw07_BallotOne.j4]
          rw [if_pos trivial, hw]
          exact hk
        · simp only [ferrulelaw07_BallotOne.j4]
          rw [if_pos trivial, hw]
          exact hk
    obtain ⟨hA0, hV0⟩ : 0 ≤ A ∧ 0 ≤ V := by omega
    obtain ⟨a, rfl⟩ : ∃ a : Nat, A = (a : Int) := ⟨A.toNat, by omega⟩
    obtain ⟨v, rfl⟩ : ∃ v : Nat, V = (v : Int) := ⟨V.toNat, by omega⟩
    have ha : a < asks.length := by omega
    have hvv : v < vs.length := by omega
    obtain ⟨s, hs⟩ : ∃ s, s = rd_T24 seats (v : Int) := ⟨_, rfl⟩
    obtain ⟨q, hq⟩ : ∃ q, q = rd_T26 asks (a : Int) := ⟨_, rfl⟩
    have hs' : seats.getD v z24 = s := by rw [hs]; simp only [rd_T24, Int.toNat_natCast]
    have hq' : asks.getD a z26 = q := by rw [hq]; simp only [rd_T26, Int.toNat_natCast]
    obtain ⟨⟨t0, t1, t2, t3, t4, b⟩, hT⟩ := answerT_some (newerB q.f2 q.f3 s.f2 s.f3) s.f0 s.f1 s.f2 s.f3 s.f4 q.f0 q.f1 q.f2 q.f3 q.f4
    have hf : ballot_Answer.f s.f0 s.f1 s.f2 s.f3 s.f4 q.f0 q.f1 q.f2 q.f3 q.f4 = some (t0, t1, t2, t3, t4, b) := hT
    -- what an answer does to a seat
    have hC : (term < s.f0 → term < t0) ∧ (s.f0 = term → s.f1 ≠ 0 → term < t0 ∨ (t0 = term ∧ t1 = s.f1)) ∧ (b = true → q.f4 = false → q.f0 = term → t0 = term ∧ t1 = q.f1 ∧ q.f1 ≠ 0 ∧ (s.f0 < term ∨ (s.f0 = term ∧ (s.f1 = 0 ∨ s.f1 = q.f1)))) := by
      rcases answer_cases (newerB q.f2 q.f3 s.f2 s.f3) s.f0 s.f1 s.f2 s.f3 s.f4 q.f0 q.f1 q.f2 q.f3 q.f4 with ⟨hp, c, hB⟩ | ⟨hp, hB⟩ | ⟨hp, h1, hB⟩ | ⟨hp, h1, h2, hB⟩ | ⟨hp, h1, h2, h3, hB⟩ | ⟨hp, h1, h2, h3, hB⟩
      all_goals
        have hD := hT.symm.trans hB
        simp only [Option.some.injEq, Prod.mk.injEq] at hD
        obtain ⟨rfl, rfl, rfl, rfl, rfl, rfl⟩ := hD
      · exact ⟨fun h => h, fun h _ => .inr ⟨h, rfl⟩, fun _ h => by rw [hp] at h; cases h⟩
      · exact ⟨fun h => h, fun h _ => .inr ⟨h, rfl⟩, fun h => by cases h⟩
      · exact ⟨fun h => by omega, fun h _ => .inl (by omega), fun h => by cases h⟩
      · exact ⟨fun h => by omega, fun h _ => .inl (by omega), fun _ _ e => ⟨e, rfl, h2, .inl (by omega)⟩⟩
      · exact ⟨fun h => h, fun h hne => absurd h3 hne, fun _ _ e => ⟨by omega, rfl, h2, .inr ⟨by omega, .inl h3⟩⟩⟩
      · exact ⟨fun h => h, fun h _ => .inr ⟨h, h3.symm⟩, fun _ _ e => ⟨by omega, rfl, h2, .inr ⟨by omega, .inr h3⟩⟩⟩
    obtain ⟨C1, C2, C3⟩ := hC
    have Ik : Inv vs asks term (seats.set v ⟨t0, t1, t2, t3, t4⟩) ids (i + 1) := I.keep v hvv ⟨t0, t1, t2, t3, t4⟩ (by rw [hs']; exact C1) (by rw [hs']; exact C2)
    have hstep : ∀ ids', Inv vs asks term (seats.set v ⟨t0, t1, t2, t3, t4⟩) ids' (i + 1) →
        (∀ k, (if b = true then (if (q.f4 = true) then (ferrulelaw07_BallotOne.l2 k asks order term true (seats.set v ⟨t0, t1, t2, t3, t4⟩) ids ((i + 1 : Nat) : Int) vs ls) else (if q.f0 = term then (if ([] : List Int).length + (ids.getD a []).length < 17592186044416 then (if (([] : List Int) ++ ids.getD a []).length < 17592186044416 then (ferrulelaw07_BallotOne.l2 k asks order term true (seats.set v ⟨t0, t1, t2, t3, t4⟩) (ids.set a (([] ++ ids.getD a []) ++ [rd vs (v : Int)])) ((i + 1 : Nat) : Int) vs ls) else none) else none) else (ferrulelaw07_BallotOne.l2 k asks order term true (seats.set v ⟨t0, t1, t2, t3, t4⟩) ids ((i + 1 : Nat) : Int) vs ls))) else (ferrulelaw07_BallotOne.l2 k asks order term true (seats.set v ⟨t0, t1, t2, t3, t4⟩) ids ((i + 1 : Nat) : Int) vs ls)) = ferrulelaw07_BallotOne.l2 k asks order term true (seats.set v ⟨t0, t1, t2, t3, t4⟩) ids' ((i + 1 : Nat) : Int) vs ls) →
        ∃ k, ferrulelaw07_BallotOne.l2 k asks order term true seats ids (i : Int) vs ls = some true := by
      intro ids' I' he
      obtain ⟨k, hk⟩ := ih (i + 1) _ ids' (by omega) I'
      refine ⟨k + 3, ?_⟩
      simp only [ferrulelaw07_BallotOne.l2]
      rw [if_pos (by omega), decide_eq_true (by omega)]
      simp only [ferrulelaw07_BallotOne.j3]
      rw [if_pos trivial, if_pos (by omega), if_pos (by omega), if_neg (by omega), if_neg (by omega), ← hAe, ← hVe, if_neg (by omega), decide_eq_false (by omega)]
      simp only [ferrulelaw07_BallotOne.j4]
      rw [if_neg (by decide), if_pos (by omega), if_pos (by omega), if_pos (by omega), if_pos (by omega), ← hs, ← hq, hf, hw]
      simp only [Option.bind_some, Int.toNat_natCast]
      rw [if_pos (show (a : Int) < (ids.length : Int) by omega), if_pos (show (v : Int) < (vs.length : Int) by omega)]
      have hl : rd_L4 ids (a : Int) = ids.getD a [] := by simp only [rd_L4, Int.toNat_natCast]
      rw [hl]
      exact (he k).trans hk
    by_cases hb : b = true
    · by_cases hp : q.f4 = true
      · exact hstep ids Ik (fun k => by rw [if_pos hb, if_pos hp])
      · by_cases ht : q.f0 = term
        · obtain ⟨g1, g2, g3, g4⟩ := C3 hb (by simpa using hp) ht
          have hlen := I.ln a
          have hr : rd vs (v : Int) = vs.getD v 0 := by simp only [rd, Int.toNat_natCast]
          have hgr := I.grant hinj v a hvv ⟨t0, t1, t2, t3, t4⟩ g1 (by rw [hq']; exact g2) (by rw [hq']; exact g3) (fun c hc => by
            rw [hq']
            rcases I.g c v hvv hc with h | ⟨e0, e1, e2⟩
            · rw [hs'] at h; omega
            · rw [hs'] at e0 e1
              rcases g4 with h | ⟨_, h | h⟩
              · omega
              · exact absurd (e1.symm.trans h) e2
              · exact e1.symm.trans h)
          refine hstep _ hgr (fun k => ?_)
          rw [if_pos hb, if_neg hp, if_pos ht, if_pos (by simp only [List.length_nil]; omega), if_pos (by simp only [List.nil_append]; omega), hr]
          rfl
        · exact hstep ids Ik (fun k => by rw [if_pos hb, if_neg hp, if_neg ht])
    · exact hstep ids Ik (fun k => by rw [if_neg hb])
/-! the first loops -/
theorem l1_ok (seats : List S24) (hA : asks.length * 40 ≤ 140737488351232) (h : ∃ k, ferrulelaw07_BallotOne.l2 k asks order term true seats (List.replicate asks.length []) 0 vs ls = some true) :
    ∀ m i, i + m = asks.length → ∃ k, ferrulelaw07_BallotOne.l1 k asks order term true seats (List.replicate i []) (i : Int) vs ls = some true := by
  intro m
  induction m with
  | zero =>
    intro i hi
    obtain ⟨k, hk⟩ := h
    refine ⟨k + 1, ?_⟩
    simp only [ferrulelaw07_BallotOne.l1]
    rw [if_neg (by omega), show i = asks.length by omega]
    exact hk
  | succ m ih =>
    intro i hi
    obtain ⟨k, hk⟩ := ih (i + 1) (by omega)
    refine ⟨k + 1, ?_⟩
    simp only [ferrulelaw07_BallotOne.l1]
    rw [if_pos (by omega), if_pos (by rw [List.length_replicate]; omega), w64s (m := asks.length) (by omega) (by omega), ← List.replicate_succ']
    exact hk
theorem l0_ok (hv : vs.length ≤ 7) (h : ∃ k, ferrulelaw07_BallotOne.l1 k asks order term true (List.replicate vs.length z24) [] 0 vs ls = some true) :
    ∀ m i, i + m = vs.length → ∃ k, ferrulelaw07_BallotOne.l0 k asks order term true (List.replicate i z24) (i : Int) vs ls = some true := by
  intro m
  induction m with
  | zero =>
    intro i hi
    obtain ⟨k, hk⟩ := h
    refine ⟨k + 1, ?_⟩
    simp only [ferrulelaw07_BallotOne.l0]
    rw [if_neg (by omega), show i = vs.length by omega]
    exact hk
  | succ m ih =>
    intro i hi
    obtain ⟨k, hk⟩ := ih (i + 1) (by omega)
    refine ⟨k + 1, ?_⟩
    simp only [ferrulelaw07_BallotOne.l0]
    rw [if_pos (by omega), if_pos (by rw [List.length_replicate]; omega), w64s (m := vs.length) (by omega) (by omega), show (⟨0, 0, 0, 0, false⟩ : S24) = z24 from rfl, ← List.replicate_succ']
    exact hk
end
theorem rise_lt {vs : List Int} (hr : ∀ j, j < vs.length → 0 < j → rd vs ((j - 1 : Nat) : Int) < rd vs (j : Int)) : ∀ d i, i + d + 1 < vs.length → rd vs (i : Int) < rd vs ((i + d + 1 : Nat) : Int) := by
  intro d
  induction d with
  | zero => intro i hi; have := hr (i + 1) (by omega) (by omega); simpa using this
  | succ d ih =>
    intro i hi
    have h1 := ih i (by omega)
    have h2 := hr (i + (d + 1) + 1) hi (by omega)
    simp only [Nat.add_sub_cancel] at h2
    exact Int.lt_trans h1 h2
/- def ferrulelaw07_BallotOne.Pure : Prop := ∀ (l0_0 : List Int) (l0_1 : List Int) (l0_2 : List (S26)) (l0_3 : List Int) (a0_4 : Int), q38 (⟨(⟨l0_0, l0_1⟩ : S35), l0_2, l0_3, a0_4⟩ : S38) → ∃ k, ferrulelaw07_BallotOne.f k l0_0 l0_1 l0_2 l0_3 a0_4 = some true -/
theorem BallotOne : ferrulelaw07_BallotOne.Pure := by
  intro vs ls asks order term hq
  obtain ⟨⟨⟨hv, _, _⟩, ⟨hl, _, _⟩⟩, ⟨hA, hA40, _⟩, ⟨hO, hO8, _⟩, _⟩ := hq
  simp only at hv hl hA hA40 hO hO8
  have hmx : maxLen = 9223372036854775807 := rfl
  obtain ⟨k1, b, h1, g⟩ := may_f vs ls (by omega) (by omega)
  cases b with
  | false =>
    refine ⟨k1, ?_⟩
    unfold ferrulelaw07_BallotOne.f
    rw [show ferrulelaw07_shown.f = some true from rfl]
    simp only [Option.bind_some]
    rw [h1]
    rfl
  | true =>
    obtain ⟨g1, g2, g3⟩ := g rfl
    have hlt : ∀ i j, i < j → j < vs.length → rd vs (i : Int) < rd vs (j : Int) := fun i j hij hj => by
      have := rise_lt g3 (j - i - 1) i (by omega)
      rwa [show i + (j - i - 1) + 1 = j by omega] at this
    have hnd : ∀ i, i < vs.length → ¬ rd vs (i : Int) ∈ vs.take i := by
      intro i hi hm
      obtain ⟨j, hj, he⟩ := List.getElem_of_mem hm
      rw [List.length_take] at hj
      have h2 := hlt j i (by omega) hi
      rw [rd_at vs j (by omega), ← List.getElem_take (h := by rw [List.length_take]; omega), he] at h2
      exact absurd h2 (Int.lt_irrefl _)
    have hinj : ∀ i j, i < vs.length → j < vs.length → vs.getD i 0 = vs.getD j 0 → i = j := by
      intro i j hi hj he
      have e1 : rd vs (i : Int) = vs.getD i 0 := by simp only [rd, Int.toNat_natCast]
      have e2 : rd vs (j : Int) = vs.getD j 0 := by simp only [rd, Int.toNat_natCast]
      rcases Nat.lt_trichotomy i j with h | h | h
      · have := hlt i j h hj; omega
      · exact h
      · have := hlt j i h hi; omega
    have I0 : Inv vs asks term (List.replicate vs.length z24) (List.replicate asks.length []) 0 := by
      have hn : ∀ a, (List.replicate asks.length ([] : List Int)).getD a [] = [] := by
        intro a
        rw [List.getD_eq_getElem?_getD, List.getElem?_replicate]
        split <;> rfl
      refine ⟨by simp, by simp, fun a => by rw [hn a]; simp, fun a j _ hm => ?_, fun a b j _ hm => ?_⟩
      · rw [hn a] at hm; cases hm
      · rw [hn a] at hm; cases hm
    obtain ⟨k2, h2⟩ := l0_ok (vs := vs) (ls := ls) (asks := asks) (order := order) (term := term) g2 (l1_ok _ hA40 (l2_ok g2 g1 hnd hinj (by omega) (by omega) order.length 0 _ _ (by omega) I0) asks.length 0 (by omega)) vs.length 0 (by omega)
    have e1 := upK (f := fun k => ferruleref06_May.f k vs ls) (fun k => ferruleref06_May.mono _ _ k) (show k1 ≤ k1 + k2 by omega) h1
    have e2 := upK (f := fun k => ferrulelaw07_BallotOne.l0 k asks order term true (List.replicate 0 z24) ((0 : Nat) : Int) vs ls) (fun k => (ferrulelaw07_BallotOne.mono_l k).1 _ _ _ _ _ _ _ _) (show k2 ≤ k1 + k2 by omega) h2
    refine ⟨k1 + k2, ?_⟩
    unfold ferrulelaw07_BallotOne.f
    rw [show ferrulelaw07_shown.f = some true from rfl]
    simp only [Option.bind_some]
    rw [e1]
    exact e2
end Go.Proofs.Ytbjeoaklpcbocaa.Pure
