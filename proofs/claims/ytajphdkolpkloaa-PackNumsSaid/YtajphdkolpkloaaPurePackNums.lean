/- The pure statement of the law PackNums, proved. Conditions: none. -/
import Derived.Test.YtajphdkolpkloaaDefPackNums
import Derived.Test.YtajphdkolpkloaaPackL
namespace Go.Proofs.Ytajphdkolpkloaa.Pure
open Go.RowKit Go.Proofs.Ytajphdkolpkloaa.Pr Go.Proofs.YtajphdkolpkloaaW.PrintWords Go.Proofs.YtajphdkolpkloaaW.PrintLast Go.Proofs.YtajphdkolpkloaaW.PrintMore
theorem shown_true : ferrulelaw01_shown.f 20 = some true := by decide +kernel
theorem wrap_in {x : Int} (h0 : 0 ≤ x) (h1 : x < 18446744073709551616) : IntKind.u64.wrap x = x := by
  simp [IntKind.wrap, IntKind.signed, IntKind.bits]
  omega
theorem wrap64_in {x : Int} (h0 : 0 ≤ x) (h1 : x < 100) : wrap64 x = x := by
  simp [wrap64]
  omega
theorem num_loop : ∀ (d : Nat) (k : Nat) (x n i : Int) (s : ByteArray), 0 ≤ x → x < 18446744073709551616 → 0 ≤ i → n = i + d → n < 50 → s.size + d < 100 →
    ferruleref01_Num.l0 (k + d + 1) x n s i = some (strOfNums (lowB d x) ++ s, 0)
  | 0, k, x, n, i, s, hx0, hx1, hi, hn, hn1, hs => by
    show ferruleref01_Num.l0 (k + 1) x n s i = _
    unfold ferruleref01_Num.l0
    rw [if_neg (by omega)]
    simp only [lowB, strOfNums_nil, nil_ba]
  | d + 1, k, x, n, i, s, hx0, hx1, hi, hn, hn1, hs => by
    show ferruleref01_Num.l0 ((k + d + 1) + 1) x n s i = _
    unfold ferruleref01_Num.l0
    rw [if_pos (by omega)]
    simp only [Option.bind_some]
    have hz : (strOfNums [(Int.tmod x 256) % 256]).size = 1 := strOfNums_size ..
    rw [if_pos (by omega)]
    rw [Int.tdiv_eq_ediv_of_nonneg hx0, Int.tmod_eq_emod_of_nonneg hx0]
    rw [wrap_in (by omega) (by omega), wrap64_in (by omega) (by omega)]
    have hz2 : (strOfNums [x % 256 % 256] ++ s).size = 1 + s.size := by
      rw [ByteArray.size_append, strOfNums_size]; rfl
    rw [num_loop d k (x / 256) n (i + 1) _ (by omega) (by omega) (by omega) (by omega) hn1 (by omega)]
    simp only [lowB, strOfNums_append]
    rw [ba_assoc, Int.emod_emod_of_dvd _ (by omega : (256 : Int) ∣ 256)]
theorem js (k : Nat) (x n t : Int) : ferruleref01_Num.j0 (k + 3) x n t = ferruleref01_Num.l0 k (IntKind.u64.wrap (x + (if n = 8 then 13835058055282163712 else if n = 4 then 2147483648 else t))) n (⟨#[]⟩ : ByteArray) 0 := by
  simp only [ferruleref01_Num.j0, ferruleref01_Num.j1, ferruleref01_Num.j2]
  by_cases h4 : n = 4
  · subst h4; simp
  · by_cases h8 : n = 8
    · subst h8; simp
    · simp only [if_neg h4, if_neg h8]
theorem refnum {v : Int} (h : inU64 v) : ferruleref01_Num.f 20 v = some (strOfNums (numL v), numE v) := by
  have hr : ferruleref01_Size.f v = some (sizeI v) := by
    unfold ferruleref01_Size.f sizeI
    repeat (first | rfl | split)
  obtain ⟨hv0, hv1⟩ := h
  unfold ferruleref01_Num.f
  rw [hr]
  simp only [Option.bind_some]
  unfold numE
  rcases sizeI_cases v with ⟨h1, h2⟩ | ⟨h0, h1, h2⟩ | ⟨h0, h1, h2⟩ | ⟨h0, h1, h2⟩ | ⟨h0, h2⟩
  · rw [h2, if_neg (by omega), if_neg (by omega), if_pos (by omega), js 17, if_neg (by omega), if_neg (by omega)]
    rw [wrap_in (by omega) (by omega), num_loop 1 15 _ _ _ _ (by omega) (by omega) (by omega) (by omega) (by omega) (by decide), ba_nil, numL_1 hv0 h1, Int.add_zero]
  · rw [h2, if_neg (by omega), if_pos (by omega), if_pos (by omega), js 17, if_neg (by omega), if_neg (by omega)]
    rw [wrap_in (by omega) (by omega), num_loop 2 14 _ _ _ _ (by omega) (by omega) (by omega) (by omega) (by omega) (by decide), ba_nil, numL_2 h0 h1]
  · rw [h2, if_neg (by omega), if_neg (by omega), if_pos (by omega), js 17, if_neg (by omega), if_pos (by omega)]
    rw [wrap_in (by omega) (by omega), num_loop 4 12 _ _ _ _ (by omega) (by omega) (by omega) (by omega) (by omega) (by decide), ba_nil, numL_4 h0 h1]
  · rw [h2, if_neg (by omega), if_neg (by omega), if_pos (by omega), js 17, if_pos (by omega)]
    rw [wrap_in (by omega) (by omega), num_loop 8 8 _ _ _ _ (by omega) (by omega) (by omega) (by omega) (by omega) (by decide), ba_nil, numL_8 h0 h1]
  · rw [h2, if_pos (by omega), if_neg (by omega), numL_0 h0]
    rfl
theorem PackNums : ferrulelaw01_PackNums.Pure := by
  intro v hv
  have hi := inU64_wf hv
  refine ⟨20, ?_⟩
  unfold ferrulelaw01_PackNums.f
  rw [shown_true, num_f hi, refnum hi]
  simp only [Option.bind_some, if_true, BEq.rfl]
end Go.Proofs.Ytajphdkolpkloaa.Pure
