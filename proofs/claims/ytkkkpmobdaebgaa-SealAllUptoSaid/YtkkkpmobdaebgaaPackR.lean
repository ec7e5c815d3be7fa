/- Plain laws of pack's reference number, and what a taken number is at least. Conditions: none. -/
import Derived.Test.YtkkkpmobdaebgaaPackT
import Derived.Test.YtkkkpmobdaebgaaPr6
namespace Go.Proofs.Ytkkkpmobdaebgaa.Pr
open Go.RowKit Go.Proofs.YtkkkpmobdaebgaaW.PrintWords Go.Proofs.YtkkkpmobdaebgaaW.PrintLast Go.Proofs.YtkkkpmobdaebgaaW.PrintMore
theorem num_loop : ∀ (d : Nat) (k : Nat) (x n i : Int) (s : ByteArray), 0 ≤ x → x < 18446744073709551616 → 0 ≤ i → n = i + d → n < 50 → s.size + d < 100 →
    ferruleref01_Num.l0 (k + d + 1) x n s i = some (strOfNums (lowB d x) ++ s, 0)
  | 0, k, x, n, i, s, hx0, hx1, hi, hn, hn1, hs => by
    show ferruleref01_Num.l0 (k + 1) x n s i = _
    unfold ferruleref01_Num.l0
    rw [if_neg (by omega)]
    simp only [lowB, strOfNums_nil, nil_ba]
  | d + 1, k, x, n, i, s, hx0, hx1, hi, hn, hn1, hs => by
    show ferruleref01_Num.l0 ((k + d + 1) + 1) x n s i = _
    unfold ferruleref01_Num.l0
    rw [if_pos (by omega)]
    simp only [Option.bind_some]
    have hz : (strOfNums [(Int.tmod x 256) % 256]).size = 1 := strOfNums_size ..
    rw [if_pos (by omega)]
    rw [Int.tdiv_eq_ediv_of_nonneg hx0, Int.tmod_eq_emod_of_nonneg hx0]
    rw [wrap_in (by omega) (by omega), wrap64_in (by omega) (by omega)]
    have hz2 : (strOfNums [x % 256 % 256] ++ s).size = 1 + s.size := by
      rw [ByteArray.size_append, strOfNums_size]; rfl
    rw [num_loop d k (x / 256) n (i + 1) _ (by omega) (by omega) (by omega) (by omega) hn1 (by omega)]
    simp only [lowB, strOfNums_append]
    rw [ba_assoc, Int.emod_emod_of_dvd _ (by omega : (256 : Int) ∣ 256)]
theorem js (k : Nat) (x n t : Int) : ferruleref01_Num.j0 (k + 3) x n t = ferruleref01_Num.l0 k (IntKind.u64.wrap (x + (if n = 8 then 13835058055282163712 else if n = 4 then 2147483648 else t))) n (⟨#[]⟩ : ByteArray) 0 := by
  simp only [ferruleref01_Num.j0, ferruleref01_Num.j1, ferruleref01_Num.j2]
  by_cases h4 : n = 4
  · subst h4; simp
  · by_cases h8 : n = 8
    · subst h8; simp
    · simp only [if_neg h4, if_neg h8]
theorem refnum {v : Int} (h : inU64 v) : ferruleref01_Num.f 20 v = some (strOfNums (numL v), numE v) := by
  have hr : ferruleref01_Size.f v = some (sizeI v) := by
    unfold ferruleref01_Size.f sizeI
    repeat (first | rfl | split)
  obtain ⟨hv0, hv1⟩ := h
  unfold ferruleref01_Num.f
  rw [hr]
  simp only [Option.bind_some]
  unfold numE
  rcases sizeI_cases v with ⟨h1, h2⟩ | ⟨h0, h1, h2⟩ | ⟨h0, h1, h2⟩ | ⟨h0, h1, h2⟩ | ⟨h0, h2⟩
  · rw [h2, if_neg (by omega), if_neg (by omega), if_pos (by omega), js 17, if_neg (by omega), if_neg (by omega)]
    rw [wrap_in (by omega) (by omega), num_loop 1 15 _ _ _ _ (by omega) (by omega) (by omega) (by omega) (by omega) (by decide), ba_nil, numL_1 hv0 h1, Int.add_zero]
  · rw [h2, if_neg (by omega), if_pos (by omega), if_pos (by omega), js 17, if_neg (by omega), if_neg (by omega)]
    rw [wrap_in (by omega) (by omega), num_loop 2 14 _ _ _ _ (by omega) (by omega) (by omega) (by omega) (by omega) (by decide), ba_nil, numL_2 h0 h1]
  · rw [h2, if_neg (by omega), if_neg (by omega), if_pos (by omega), js 17, if_neg (by omega), if_pos (by omega)]
    rw [wrap_in (by omega) (by omega), num_loop 4 12 _ _ _ _ (by omega) (by omega) (by omega) (by omega) (by omega) (by decide), ba_nil, numL_4 h0 h1]
  · rw [h2, if_neg (by omega), if_neg (by omega), if_pos (by omega), js 17, if_pos (by omega)]
    rw [wrap_in (by omega) (by omega), num_loop 8 8 _ _ _ _ (by omega) (by omega) (by omega) (by omega) (by omega) (by decide), ba_nil, numL_8 h0 h1]
  · rw [h2, if_pos (by omega), if_neg (by omega), numL_0 h0]
    rfl
theorem take_nonneg : ∀ (k : Nat) (a : ByteArray) (n x i : Int) (r : Int × ByteArray × Int), 0 ≤ x → pack_TakeNum.l0 k a n x i = some r → 0 ≤ r.1
  | 0, a, n, x, i, r, hx, h => by rw [pack_TakeNum.l0] at h; exact absurd h (by simp)
  | k + 1, a, n, x, i, r, hx, h => by
    rw [pack_TakeNum.l0] at h
    split at h
    · split at h
      · split at h
        · obtain ⟨hb0, hb1⟩ := bt_range a i
          rw [or_step hb0 hb1] at h
          exact take_nonneg k a n _ _ r (by rw [IntKind.wrap_u64]; omega) h
        · exact absurd h (by simp)
      · exact absurd h (by simp)
    · rw [Option.bind_eq_some_iff] at h
      obtain ⟨z, hz, h⟩ := h
      split at h
      · split at h
        · split at h
          · have := Option.some.inj h
            subst this
            exact hx
          · exact absurd h (by simp)
        · exact absurd h (by simp)
      · have := Option.some.inj h
        subst this
        exact Int.le_refl _
theorem take_f_nonneg {k : Nat} {a : ByteArray} {r : Int × ByteArray × Int} (h : pack_TakeNum.f k a = some r) : 0 ≤ r.1 := by
  unfold pack_TakeNum.f at h
  split at h
  · have := Option.some.inj h
    subst this
    exact Int.le_refl _
  · split at h
    · split at h
      · split at h
        · have := Option.some.inj h
          subst this
          exact Int.le_refl _
        · exact take_nonneg _ _ _ _ _ _ (by rw [IntKind.wrap_u64]; omega) h
      · exact absurd h (by simp)
    · exact absurd h (by simp)
end Go.Proofs.Ytkkkpmobdaebgaa.Pr
