/- Plain laws of locks. Conditions: none. -/
import Derived.Test.YtgmflfbhifdacaaHandAsk
import Derived.Test.YtgmflfbhifdacaaPr3
namespace Go.Proofs.Ytgmflfbhifdacaa.Pr
open Go.RowKit Go.Proofs.YtgmflfbhifdacaaW.PrintWords Go.Proofs.YtgmflfbhifdacaaW.PrintLast Go.Proofs.YtgmflfbhifdacaaW.PrintMore
theorem shown_true : ferrulelaw12_shown.f = some true := by decide +kernel
theorem wrap64_in {x : Int} (h0 : -9223372036854775808 ≤ x) (h1 : x < 9223372036854775808) : wrap64 x = x := by
  simp [wrap64]
  omega
theorem stB_eq {a b : ByteArray} : stB a b = true ↔ a = b := by
  unfold stB
  rw [beq_iff_eq]
  constructor
  · intro h
    rw [ByteArray.toList_eq, ByteArray.toList_eq] at h
    exact ByteArray.ext (Array.toList_inj.1 h)
  · intro h
    rw [h]
theorem txB_eq {a b : S25} : txB a b = true ↔ a = b := by
  cases a
  cases b
  simp [txB]
theorem idxN_any (p : S40 → Bool) (l : List S40) : decide (0 ≤ idxN p l 0) = l.any p := by
  rcases idxN_spec (p := p) l 0 with ⟨e, h⟩ | ⟨k, hk, e, h, x, hx, hp⟩
  · rw [e, decide_eq_false (by omega)]
    symm
    rw [List.any_eq_false]
    intro x hx
    simp [h x hx]
  · rw [e, decide_eq_true (by omega)]
    symm
    rw [List.any_eq_true]
    exact ⟨x, List.mem_of_getElem? hx, hp⟩
theorem idxN_none {p : S40 → Bool} {l : List S40} (h : ¬ 0 ≤ idxN p l 0) : ∀ x ∈ l, p x = false := by
  intro x hx
  have e := idxN_any p l
  rw [decide_eq_false h] at e
  have := List.any_eq_false.1 e.symm x hx
  simpa using this
theorem idxN_some {p : S40 → Bool} {l : List S40} (h : 0 ≤ idxN p l 0) : p (rd_T40 l (idxN p l 0)) = true ∧ rd_T40 l (idxN p l 0) ∈ l := by
  rcases idxN_spec (p := p) l 0 with ⟨e, _⟩ | ⟨k, hk, e, _, x, hx, hp⟩
  · rw [e] at h
    omega
  · rw [e, Nat.zero_add, rd_at l k hk]
    rw [List.getElem?_eq_getElem hk] at hx
    rw [Option.some.inj hx]
    exact ⟨hp, List.mem_of_getElem? (List.getElem?_eq_getElem hk |>.trans hx)⟩
theorem inB_iff {l : List S25} {x : S25} : inB l x = true ↔ x ∈ l := by
  unfold inB
  rw [List.any_eq_true]
  constructor
  · rintro ⟨y, hy, h⟩
    exact of_decide_eq_true h ▸ hy
  · exact fun h => ⟨x, h, decide_eq_true rfl⟩
theorem mem_keep {p : S40 → Bool} {l : List S40} {x : S40} : x ∈ keepB p l ↔ x ∈ l ∧ p x = false := by
  unfold keepB
  rw [List.mem_filter]
  simp
theorem wayB_iff {h : S40} {t : S25} {key : ByteArray} {write : Bool} : wayB h t key write = true ↔ h.f0 = key ∧ h.f1 ≠ t ∧ (h.f2 = true ∨ write = true) := by
  unfold wayB
  rw [Bool.and_eq_true, Bool.and_eq_true, stB_eq, Bool.or_eq_true, Bool.not_eq_true', ← Bool.not_eq_true, txB_eq]
theorem p34_iff {t : S25} {key : ByteArray} {x : S40} : p34 t key x = true ↔ x.f1 = t ∧ x.f0 = key := by
  unfold p34
  rw [Bool.and_eq_true, txB_eq, stB_eq]
/-- Who must give way: just those that are in the way, and each of them may be told so. -/
theorem scanB_spec {t : S25} {key : ByteArray} {write : Bool} {firm : List S25} : ∀ (l : List S40) (out r : List S25), scanB t key write firm l out = some r →
    (∀ x, x ∈ r ↔ x ∈ out ∨ ∃ h ∈ l, wayB h t key write = true ∧ h.f1 = x) ∧ (∀ h ∈ l, wayB h t key write = true → inB firm h.f1 = false ∧ elderB t h.f1 = true) ∧ (out.Nodup → r.Nodup)
  | [], out, r, h => by
    obtain rfl := Option.some.inj h
    exact ⟨fun x => by simp, fun h hh => absurd hh (by simp), id⟩
  | y :: l, out, r, h => by
    unfold scanB at h
    by_cases hw : wayB y t key write = true
    · rw [if_pos hw] at h
      by_cases hs : (inB firm y.f1 || !(elderB t y.f1)) = true
      · rw [if_pos hs] at h
        cases h
      · rw [if_neg hs] at h
        obtain ⟨h1, h2, h3⟩ := scanB_spec l _ r h
        simp only [Bool.or_eq_true, Bool.not_eq_true', not_or, Bool.not_eq_true, Bool.not_eq_false] at hs
        refine ⟨fun x => ?_, fun z hz hzw => ?_, fun hn => h3 ?_⟩
        · rw [h1 x]
          by_cases ho : inB out y.f1 = true
          · rw [if_pos ho]
            constructor
            · rintro (h | ⟨z, hz, hzw, e⟩)
              · exact .inl h
              · exact .inr ⟨z, List.mem_cons_of_mem _ hz, hzw, e⟩
            · rintro (h | ⟨z, hz, hzw, e⟩)
              · exact .inl h
              · rcases List.mem_cons.1 hz with rfl | hz
                · exact .inl (e ▸ inB_iff.1 ho)
                · exact .inr ⟨z, hz, hzw, e⟩
          · rw [if_neg ho, List.mem_append, List.mem_singleton]
            constructor
            · rintro ((h | h) | ⟨z, hz, hzw, e⟩)
              · exact .inl h
              · exact .inr ⟨y, List.mem_cons_self .., hw, h.symm⟩
              · exact .inr ⟨z, List.mem_cons_of_mem _ hz, hzw, e⟩
            · rintro (h | ⟨z, hz, hzw, e⟩)
              · exact .inl (.inl h)
              · rcases List.mem_cons.1 hz with rfl | hz
                · exact .inl (.inr e.symm)
                · exact .inr ⟨z, hz, hzw, e⟩
        · rcases List.mem_cons.1 hz with rfl | hz
          · exact hs
          · exact h2 z hz hzw
        · by_cases ho : inB out y.f1 = true
          · rw [if_pos ho]
            exact hn
          · rw [if_neg ho]
            rw [inB_iff] at ho
            rw [List.nodup_append]
            refine ⟨hn, by simp, fun a ha b hb => ?_⟩
            rw [List.mem_singleton] at hb
            subst hb
            exact fun e => ho (e ▸ ha)
    · rw [if_neg hw] at h
      obtain ⟨h1, h2, h3⟩ := scanB_spec l _ r h
      refine ⟨fun x => ?_, fun z hz hzw => ?_, h3⟩
      · rw [h1 x]
        constructor
        · rintro (h | ⟨z, hz, hzw, e⟩)
          · exact .inl h
          · exact .inr ⟨z, List.mem_cons_of_mem _ hz, hzw, e⟩
        · rintro (h | ⟨z, hz, hzw, e⟩)
          · exact .inl h
          · rcases List.mem_cons.1 hz with rfl | hz
            · exact absurd hzw hw
            · exact .inr ⟨z, hz, hzw, e⟩
      · rcases List.mem_cons.1 hz with rfl | hz
        · exact absurd hzw hw
        · exact h2 z hz hzw
theorem scanB_none {t : S25} {key : ByteArray} {write : Bool} {firm : List S25} : ∀ (l : List S40) (out : List S25), (∀ h ∈ l, wayB h t key write = true → inB firm h.f1 = false ∧ elderB t h.f1 = true) → ∃ r, scanB t key write firm l out = some r
  | [], out, _ => ⟨out, rfl⟩
  | y :: l, out, hh => by
    unfold scanB
    by_cases hw : wayB y t key write = true
    · rw [if_pos hw]
      obtain ⟨a, b⟩ := hh y (List.mem_cons_self ..) hw
      rw [if_neg (by rw [a, b]; decide)]
      exact scanB_none l _ (fun h hl => hh h (List.mem_cons_of_mem _ hl))
    · rw [if_neg hw]
      exact scanB_none l _ (fun h hl => hh h (List.mem_cons_of_mem _ hl))
theorem ask_f (l : List S40) (a b : Int) (key : ByteArray) (write : Bool) (firm : List S25) (hl : l.length < 3518437208883) (h1 : ∀ x ∈ l, okT x.f1 = true) (h2 : ∀ x ∈ firm, okT x = true) : lock_Ask.f l a b key write firm = some (askI l ⟨a, b⟩ key write firm) := by
  unfold lock_Ask.f
  rw [if_pos ⟨hl, List.all_eq_true.2 h1, List.all_eq_true.2 h2⟩]
end Go.Proofs.Ytgmflfbhifdacaa.Pr
