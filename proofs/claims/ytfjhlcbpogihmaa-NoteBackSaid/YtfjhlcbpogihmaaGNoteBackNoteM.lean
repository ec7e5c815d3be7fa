/- Which states may be, and the least notes that come to them: plain laws. Conditions: none. -/
import Derived.Test.YtfjhlcbpogihmaaKNoteBack3
import Derived.Test.YtfjhlcbpogihmaaGNoteBackPr26
import Derived.Test.YtfjhlcbpogihmaaKNoteBack6
namespace Go.Proofs.Ytfjhlcbpogihmaa.Pr
open Go.RowKit Go.Proofs.YtfjhlcbpogihmaaW.PrintWords Go.Proofs.YtfjhlcbpogihmaaW.PrintLast Go.Proofs.YtfjhlcbpogihmaaW.PrintMore
set_option linter.unusedVariables false
set_option linter.unusedSimpArgs false
theorem wu3 {x : Int} (h0 : 0 ≤ x) (h1 : x < 18446744073709551616) : IntKind.u64.wrap x = x := by
  simp [IntKind.wrap, IntKind.signed, IntKind.bits]
  omega
theorem wi3 {x : Int} (h0 : -9223372036854775808 ≤ x) (h1 : x < 9223372036854775808) : wrap64 x = x := by
  simp [wrap64]
  omega
theorem rd75_at3 (l : List S75) (i : Nat) (h : i < l.length) : rd_T75 l (i : Int) = l[i] := by simp [rd_T75, List.getD_eq_getElem?_getD, h]
/-- Do entries rise, and may each be? -/
def entsOk (hi : Int) : Int → List S75 → Bool
  | _, [] => true
  | t, e :: r => if e.f0 < t then false else if e.f0 > hi then false else if (e.f1.size : Int) > 4096 then false else entsOk hi e.f0 r
theorem entsOk_cons (hi t : Int) (e : S75) (r : List S75) : entsOk hi t (e :: r) = if e.f0 < t then false else if e.f0 > hi then false else if (e.f1.size : Int) > 4096 then false else entsOk hi e.f0 r := rfl
theorem toNil {a : ByteArray} : a.toList = [] ↔ (a.size : Int) = 0 := by
  rw [ByteArray.toList_eq]
  have := data_length a
  rw [← List.length_eq_zero_iff]
  omega
def mayS (t v b bt : Int) (s : ByteArray) (es : List S75) : Bool :=
  if t > 4611686018427387903 ∨ v > 4611686018427387903 ∨ b > 1099511627776 ∨ (es.length : Int) > 1024 ∨ b + es.length > 1099511627776 ∨ (s.size : Int) > 4096 ∨ bt > t then false
  else if b = 0 ∧ (bt > 0 ∨ (s.size : Int) > 0) then false else entsOk t bt es
theorem mayE_n (t v b bt : Int) (s : ByteArray) (es : List S75) (hl : es.length ≤ 4611686018427387904) : ∀ (d i : Nat) (u : Int) (k : Nat), es.length - i = d → i ≤ es.length → d < k → note_May.l0 k u es (es.length : Int) (i : Int) t v b bt s es = some (entsOk t u (es.drop i))
  | 0, i, u, k, hd, hi, hk => by
    obtain ⟨k, rfl⟩ : ∃ j, k = j + 1 := ⟨k - 1, by omega⟩
    simp only [note_May.l0]
    rw [if_neg (by omega), List.drop_of_length_le (by omega)]
    rfl
  | d + 1, i, u, k, hd, hi, hk => by
    obtain ⟨k, rfl⟩ : ∃ j, k = j + 1 := ⟨k - 1, by omega⟩
    have hil : i < es.length := by omega
    have ih := mayE_n t v b bt s es hl d (i + 1) es[i].f0 k (by omega) (by omega) (by omega)
    simp only [note_May.l0]
    rw [if_pos (by omega), if_pos (by omega), if_pos (by omega), rd75_at3 es i hil, wi3 (x := (i : Int) + 1) (by omega) (by omega), show ((i : Int) + 1) = ((i + 1 : Nat) : Int) by omega, ih, List.drop_eq_getElem_cons hil]
    rw [entsOk_cons]
    split
    · rfl
    split
    · rfl
    split
    · rfl
    · rfl
theorem mayE_r (t v b bt : Int) (s : ByteArray) (es : List S75) (hl : es.length ≤ 4611686018427387904) : ∀ (d i : Nat) (u : Int) (k : Nat), es.length - i = d → i ≤ es.length → d < k → bt ≤ u → (0 < i → u = (rd_T75 es ((i : Int) - 1)).f0) → (i = 0 → u = bt) →
      ferruleref04_May.l0 k (i : Int) t v b bt s es b bt s es = some (entsOk t u (es.drop i))
  | 0, i, u, k, hd, hi, hk, hu, hp, hz => by
    obtain ⟨k, rfl⟩ : ∃ j, k = j + 1 := ⟨k - 1, by omega⟩
    simp only [ferruleref04_May.l0]
    rw [if_neg (by omega), List.drop_of_length_le (by omega)]
    rfl
  | d + 1, i, u, k, hd, hi, hk, hu, hp, hz => by
    obtain ⟨k, rfl⟩ : ∃ j, k = j + 1 := ⟨k - 1, by omega⟩
    have hil : i < es.length := by omega
    have ih : ¬ es[i].f0 < u → ferruleref04_May.l0 k ((i + 1 : Nat) : Int) t v b bt s es b bt s es = some (entsOk t es[i].f0 (es.drop (i + 1))) := fun h => mayE_r t v b bt s es hl d (i + 1) es[i].f0 k (by omega) (by omega) (by omega) (by omega) (fun _ => by rw [show (((i + 1 : Nat) : Int) - 1) = (i : Int) by omega, rd75_at3 es i hil]) (fun h => by omega)
    simp only [ferruleref04_May.l0]
    rw [if_pos (by omega), if_pos (by omega), rd75_at3 es i hil, wi3 (x := (i : Int) + 1) (by omega) (by omega), show ((i : Int) + 1) = ((i + 1 : Nat) : Int) by omega, List.drop_eq_getElem_cons hil]
    rw [entsOk_cons]
    by_cases c1 : es[i].f0 > t
    · rw [if_pos c1]
      split <;> rfl
    rw [if_neg c1]
    by_cases c2 : es[i].f0 < bt
    · rw [if_pos c2, if_pos (by omega)]
    rw [if_neg c2]
    by_cases c3 : (i : Int) > 0
    · rw [if_pos c3, wi3 (x := (i : Int) - 1) (by omega) (by omega), if_pos (by omega), if_pos (by omega), ← hp (by omega)]
      by_cases c4 : es[i].f0 < u
      · rw [if_pos c4, if_pos c4]
      · rw [if_neg c4, if_neg c4, ih c4, if_neg c1]
        split <;> rfl
    · rw [if_neg c3]
      have hu0 := hz (by omega)
      have c4 : ¬ es[i].f0 < u := by omega
      rw [ih c4, if_neg c4, if_neg c1]
      split <;> rfl
theorem may_n (t v b bt : Int) (s : ByteArray) (es : List S75) (hl : es.length ≤ 4611686018427387904) (hb0 : 0 ≤ b) (hbt : 0 ≤ bt) (k : Nat) (hk : es.length + 4 < k) : note_May.f k t v b bt s es = some (mayS t v b bt s es) := by
  obtain ⟨k, rfl⟩ : ∃ j, k = j + 1 + 1 := ⟨k - 2, by omega⟩
  have hT : note_May.j0 (k + 1 + 1) true t v b bt s es b bt s es = some false := by simp only [note_May.j0]; rw [if_pos True.intro]
  unfold note_May.f mayS
  rw [hT]
  by_cases c1 : mx t v > 4611686018427387903
  · rw [if_pos c1, if_pos (by unfold mx at c1; split at c1 <;> omega)]
  have c1' : t ≤ 4611686018427387903 ∧ v ≤ 4611686018427387903 := by unfold mx at c1; split at c1 <;> omega
  rw [if_neg c1]
  by_cases c2 : b > 1099511627776
  · rw [if_pos c2, if_pos (by omega)]
  rw [if_neg c2]
  by_cases c3 : (es.length : Int) > 1024
  · rw [if_pos c3, if_pos (by omega)]
  rw [if_neg c3]
  unfold note_last.f
  rw [wu3 (x := (es.length : Int)) (by omega) (by omega), wu3 (x := b + (es.length : Int)) (by omega) (by omega)]
  simp only [Option.bind_some]
  by_cases c4 : b + (es.length : Int) > 1099511627776
  · rw [if_pos c4, if_pos (by omega)]
  rw [if_neg c4]
  by_cases c5 : (s.size : Int) > 4096
  · rw [if_pos c5, if_pos (by omega)]
  rw [if_neg c5]
  by_cases c6 : bt > t
  · rw [decide_eq_true c6, hT, if_pos (by omega)]
  rw [decide_eq_false c6, if_neg (by omega)]
  simp only [note_May.j0]
  rw [if_neg (by decide)]
  have hF : note_May.j1 (k + 1) false t v b bt s es b bt s es = some (entsOk t bt es) := by
    simp only [note_May.j1]
    rw [if_neg (by decide), show (0 : Int) = ((0 : Nat) : Int) from rfl, mayE_n t v b bt s es hl es.length 0 bt k (by omega) (by omega) (by omega)]
    rfl
  have hU : note_May.j1 (k + 1) true t v b bt s es b bt s es = some false := by simp only [note_May.j1]; rw [if_pos True.intro]
  by_cases c7 : b = 0
  · rw [if_pos c7]
    by_cases c8 : bt = 0
    · rw [if_pos c8]
      by_cases c9 : (s.size : Int) > 0
      · have : (s.toList != ([] : List UInt8)) = true := bne_iff_ne.mpr (fun h => by have := toNil.1 h; omega)
        rw [this, hU, if_pos (by omega)]
      · have : (s.toList != ([] : List UInt8)) = false := bne_eq_false_iff_eq.mpr (toNil.2 (by omega))
        rw [this, hF, if_neg (by omega)]
    · rw [if_neg c8, hU, if_pos (by omega)]
  · rw [if_neg c7, hF, if_neg (by omega)]
theorem may_r (t v b bt : Int) (s : ByteArray) (es : List S75) (hl : es.length ≤ 4611686018427387904) (hb0 : 0 ≤ b) (hbt : 0 ≤ bt) (k : Nat) (hk : es.length + 4 < k) : ferruleref04_May.f k t v b bt s es = some (mayS t v b bt s es) := by
  obtain ⟨k, rfl⟩ : ∃ j, k = j + 1 + 1 := ⟨k - 2, by omega⟩
  have hT : ferruleref04_May.j0 (k + 1 + 1) true t v b bt s es b bt s es = some false := by simp only [ferruleref04_May.j0]; rw [if_pos True.intro]
  unfold ferruleref04_May.f mayS
  rw [hT]
  by_cases c1 : t > 4611686018427387903
  · rw [if_pos c1, if_pos (by omega)]
  rw [if_neg c1]
  by_cases c0 : v > 4611686018427387903
  · rw [if_pos c0, if_pos (by omega)]
  rw [if_neg c0]
  by_cases c2 : b > 1099511627776
  · rw [if_pos c2, if_pos (by omega)]
  rw [if_neg c2]
  by_cases c3 : (es.length : Int) > 1024
  · rw [if_pos c3, if_pos (by omega)]
  rw [if_neg c3]
  unfold ferruleref04_Last.f
  rw [wu3 (x := (es.length : Int)) (by omega) (by omega), wu3 (x := b + (es.length : Int)) (by omega) (by omega)]
  simp only [Option.bind_some]
  by_cases c4 : b + (es.length : Int) > 1099511627776
  · rw [if_pos c4, if_pos (by omega)]
  rw [if_neg c4]
  by_cases c5 : (s.size : Int) > 4096
  · rw [if_pos c5, if_pos (by omega)]
  rw [if_neg c5]
  by_cases c6 : bt > t
  · rw [decide_eq_true c6, hT, if_pos (by omega)]
  rw [decide_eq_false c6, if_neg (by omega)]
  simp only [ferruleref04_May.j0]
  rw [if_neg (by decide)]
  have hF : ferruleref04_May.j1 (k + 1) false t v b bt s es b bt s es = some (entsOk t bt es) := by
    simp only [ferruleref04_May.j1]
    rw [if_neg (by decide), show (0 : Int) = ((0 : Nat) : Int) from rfl, mayE_r t v b bt s es hl es.length 0 bt k (by omega) (by omega) (by omega) (by omega) (fun h => by omega) (fun _ => rfl)]
    rfl
  have hU : ferruleref04_May.j1 (k + 1) true t v b bt s es b bt s es = some false := by simp only [ferruleref04_May.j1]; rw [if_pos True.intro]
  by_cases c7 : b = 0
  · rw [if_pos c7]
    by_cases c8 : bt > 0
    · rw [if_pos c8, hU, if_pos (by omega)]
    · rw [if_neg c8]
      by_cases c9 : (s.size : Int) > 0
      · rw [decide_eq_true c9, hU, if_pos (by omega)]
      · rw [decide_eq_false c9, hF, if_neg (by omega)]
  · rw [if_neg c7, hF, if_neg (by omega)]
/-- The notes of entries, from an index on. -/
def entNotes (b : Int) : Nat → List S75 → List S39
  | _, [] => []
  | i, e :: r => ⟨2, b + i + 1, e.f0, 0, e.f1⟩ :: entNotes b (i + 1) r
def leastN (t v b bt : Int) (s : ByteArray) (es : List S75) : List S39 :=
  (if b > 0 then [⟨1, 0, t, v, ⟨#[]⟩⟩, ⟨4, b, bt, 0, s⟩] else [⟨1, 0, t, v, ⟨#[]⟩⟩]) ++ entNotes b 0 es
theorem leastE_n (t v b bt : Int) (s : ByteArray) (es : List S75) (hl : es.length ≤ 1024) (hb0 : 0 ≤ b) (hb1 : b ≤ 1099511627776) : ∀ (d i : Nat) (acc : List S39) (k : Nat), es.length - i = d → i ≤ es.length → acc.length ≤ i + 2 → d < k →
      note_Least.l0 k acc es (es.length : Int) (i : Int) t v b bt s es = some (acc ++ entNotes b i (es.drop i), 0)
  | 0, i, acc, k, hd, hi, ha, hk => by
    obtain ⟨k, rfl⟩ : ∃ j, k = j + 1 := ⟨k - 1, by omega⟩
    simp only [note_Least.l0]
    rw [if_neg (by omega), List.drop_of_length_le (by omega)]
    simp [entNotes]
  | d + 1, i, acc, k, hd, hi, ha, hk => by
    obtain ⟨k, rfl⟩ : ∃ j, k = j + 1 := ⟨k - 1, by omega⟩
    have hil : i < es.length := by omega
    simp only [note_Least.l0]
    rw [if_pos (by omega), if_pos (by omega), if_pos (by omega), if_pos (by omega), rd75_at3 es i hil, wu3 (x := (i : Int)) (by omega) (by omega), wu3 (x := b + (i : Int)) (by omega) (by omega), wu3 (x := b + (i : Int) + 1) (by omega) (by omega), wi3 (x := (i : Int) + 1) (by omega) (by omega), show ((i : Int) + 1) = ((i + 1 : Nat) : Int) by omega,
      leastE_n t v b bt s es hl hb0 hb1 d (i + 1) _ k (by omega) (by omega) (by rw [List.length_append, List.length_singleton]; omega) (by omega), List.drop_eq_getElem_cons hil, List.append_assoc]
    rfl
theorem mayS_facts {t v b bt : Int} {s : ByteArray} {es : List S75} (h : mayS t v b bt s es = true) : t ≤ 4611686018427387903 ∧ v ≤ 4611686018427387903 ∧ b + es.length ≤ 1099511627776 ∧ es.length ≤ 1024 ∧ s.size ≤ 4096 ∧ bt ≤ t ∧ b ≤ 1099511627776 ∧ (b = 0 → bt ≤ 0 ∧ s.size = 0) ∧ entsOk t bt es = true := by
  unfold mayS at h
  split at h
  · cases h
  · split at h
    · cases h
    · exact ⟨by omega, by omega, by omega, by omega, by omega, by omega, by omega, fun _ => by omega, h⟩
theorem least_n (t v b bt : Int) (s : ByteArray) (es : List S75) (hl : es.length ≤ 4611686018427387904) (hb0 : 0 ≤ b) (hbt : 0 ≤ bt) (k : Nat) (hk : es.length + 4 < k) : note_Least.f k t v b bt s es = some (if mayS t v b bt s es = true then (leastN t v b bt s es, 0) else ([], 1)) := by
  unfold note_Least.f
  rw [may_n t v b bt s es hl hb0 hbt k hk]
  simp only [Option.bind_some]
  by_cases hm : mayS t v b bt s es = true
  · rw [if_pos hm, if_pos hm]
    obtain ⟨m1, m2, m3, m4, m5, m6, m7, m8, m9⟩ := mayS_facts hm
    obtain ⟨k, rfl⟩ : ∃ j, k = j + 1 := ⟨k - 1, by omega⟩
    unfold leastN
    simp only [note_Least.j0]
    by_cases hb : b > 0
    · rw [if_pos hb, if_pos hb, if_pos (by simp), show (0 : Int) = ((0 : Nat) : Int) from rfl, leastE_n t v b bt s es m4 hb0 m7 es.length 0 _ k (by omega) (by omega) (by simp) (by omega)]
      rfl
    · rw [if_neg hb, if_neg hb, show (0 : Int) = ((0 : Nat) : Int) from rfl, leastE_n t v b bt s es m4 hb0 m7 es.length 0 _ k (by omega) (by omega) (by simp) (by omega)]
      rfl
  · rw [if_neg hm, if_neg hm]
end Go.Proofs.Ytfjhlcbpogihmaa.Pr
