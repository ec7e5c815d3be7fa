/- The pure statement of the law SealTakes, proved. Conditions: none. -/
import Derived.Test.YtkkkpmobdaebgaaDefSealTakes
import Derived.Test.YtkkkpmobdaebgaaSealP
namespace Go.Proofs.Ytkkkpmobdaebgaa.Pure
open Go.RowKit Go.Proofs.Ytkkkpmobdaebgaa.Pr Go.Proofs.YtkkkpmobdaebgaaW.PrintWords Go.Proofs.YtkkkpmobdaebgaaW.PrintLast Go.Proofs.YtkkkpmobdaebgaaW.PrintMore
theorem takes_same (a : ByteArray) (ha : a.size ≤ 140737488351232) : ∃ r, seal_Take.f (a.size + 30) a = some r ∧ ferruleref02_Take.f (a.size + 30) a = some r := by
  obtain ⟨r, h1, h2⟩ := take_both a
  have g1 := up (fun k => pack_TakeNum.f k a) (fun k => pack_TakeNum.mono _ k) h1 (by omega : 20 ≤ a.size + 30)
  have g2 := up (fun k => ferruleref01_TakeNum.f k a) (fun k => ferruleref01_TakeNum.mono _ k) h2 (by omega : 20 ≤ a.size + 30)
  try simp only at g1 g2
  unfold seal_Take.f ferruleref02_Take.f
  rw [g1, g2]
  simp only [Option.bind_some]
  rcases take_full a with ⟨e, he, hf⟩ | ⟨m, v, hm1, hm8, hm, hf, hi, hv, hL, hshort⟩
  · rw [hf] at h1
    obtain rfl := Option.some.inj h1
    try simp only
    rw [if_neg he, if_neg he]
    exact ⟨_, rfl, rfl⟩
  · rw [hf] at h1
    obtain rfl := Option.some.inj h1
    try simp only
    have hv0 := hi.1
    have hrs : (a.extract m a.size).size = a.size - m := by rw [ByteArray.size_extract]; omega
    rw [if_true, if_true]
    by_cases c1 : v > 65536
    · rw [if_pos c1, if_pos c1]
      exact ⟨_, rfl, rfl⟩
    · rw [if_neg c1, if_neg c1]
      rw [wrap_in (x := v + 4) (by omega) (by omega), wrap_in (x := ((a.extract m a.size).size : Int)) (by omega) (by omega)]
      by_cases c2 : v + 4 > ((a.extract m a.size).size : Int)
      · rw [if_pos c2, if_pos c2]
        exact ⟨_, rfl, rfl⟩
      · rw [if_neg c2, if_neg c2]
        have has : ((a.extract m a.size).extract (v + 4).toNat (a.extract m a.size).size).size = (a.size - m) - (v + 4).toNat := by rw [ByteArray.size_extract]; omega
        have hA : wrap64 (wrap64 ((a.size : Int) - (((a.extract m a.size).extract (v + 4).toNat (a.extract m a.size).size).size : Int)) - 4) = m + v := by
          rw [has, wrap64_big (x := (a.size : Int) - (((a.size - m) - (v + 4).toNat : Nat) : Int)) (by omega) (by omega), wrap64_big (by omega) (by omega)]
          omega
        have hB : wrap64 (wrap64 ((a.size : Int) - ((a.extract m a.size).size : Int)) + wrap64 v) = m + v := by
          rw [hrs, wrap64_big (x := (a.size : Int) - ((a.size - m : Nat) : Int)) (by omega) (by omega), wrap64_big (x := v) (by omega) (by omega), wrap64_big (by omega) (by omega)]
          omega
        rw [hA, hB]
        have hes : (a.extract 0 ((m : Int) + v).toNat).size ≤ a.size := by rw [ByteArray.size_extract]; omega
        rw [if_pos hv0, if_pos (by omega), if_pos (by omega), if_pos (by omega), if_pos (by omega), if_pos (by omega), sum_f _ (by omega), rsum_f _ (by omega) _ (by omega)]
        simp only [Option.bind_some]
        rw [tail_f, four_f (sumI_range _).1]
        simp only [Option.bind_some]
        generalize tailB (sumI (a.extract 0 ((m : Int) + v).toNat)) = t
        by_cases c3 : t.toList = ((a.extract m a.size).extract v.toNat (v + 4).toNat).toList
        · simp only [if_pos c3, if_pos hv0, if_pos (by omega : v ≤ v + 4), if_pos (by omega : 0 ≤ v + 4), if_pos (by omega : v + 4 ≤ ((a.extract m a.size).size : Int)), if_pos (by omega : v ≤ ((a.extract m a.size).size : Int)), if_pos (by omega : 0 ≤ (m : Int) + v), if_pos (by omega : (m : Int) + v ≤ (a.size : Int))]
          exact ⟨_, rfl, rfl⟩
        · simp only [if_neg c3, if_pos hv0, if_pos (by omega : v ≤ v + 4), if_pos (by omega : 0 ≤ v + 4), if_pos (by omega : v + 4 ≤ ((a.extract m a.size).size : Int)), if_pos (by omega : v ≤ ((a.extract m a.size).size : Int)), if_pos (by omega : 0 ≤ (m : Int) + v), if_pos (by omega : (m : Int) + v ≤ (a.size : Int))]
          exact ⟨_, rfl, rfl⟩
theorem SealTakes : ferrulelaw02_SealTakes.Pure := by
  intro a ha
  refine ⟨a.size + 30, ?_⟩
  obtain ⟨r, h1, h2⟩ := takes_same a ha
  unfold ferrulelaw02_SealTakes.f
  rw [shown_true, h1, h2]
  simp only [Option.bind_some, if_true, BEq.rfl]
end Go.Proofs.Ytkkkpmobdaebgaa.Pure
