/- The pure statement of the law PackTexts, proved. Conditions: none. -/
import Derived.Test.YtajphdkolpkloaaDefPackTexts
import Derived.Test.YtajphdkolpkloaaPackR
namespace Go.Proofs.Ytajphdkolpkloaa.Pure
open Go.RowKit Go.Proofs.Ytajphdkolpkloaa.Pr Go.Proofs.YtajphdkolpkloaaW.PrintWords Go.Proofs.YtajphdkolpkloaaW.PrintLast Go.Proofs.YtajphdkolpkloaaW.PrintMore
theorem shown_true : ferrulelaw01_shown.f 20 = some true := by decide +kernel
theorem texts_both (a : ByteArray) : ∃ r, pack_Text.f a = some r ∧ ferruleref01_Text.f 20 a = some r := by
  unfold pack_Text.f ferruleref01_Text.f
  by_cases h : (a.size : Int) > 4096
  · rw [if_pos h, if_pos h]
    exact ⟨_, rfl, rfl⟩
  · have hi : inU64 (a.size : Int) := by unfold inU64; omega
    rw [if_neg h, if_neg h, num_f hi, refnum hi]
    simp only [Option.bind_some]
    have hz := sizeI_cases (a.size : Int)
    have hs := size_num (a.size : Int)
    rw [if_pos (by omega), if_pos (by omega)]
    unfold numE
    rw [if_pos (by omega)]
    exact ⟨_, rfl, rfl⟩
theorem taketexts_both (a : ByteArray) : ∃ r, pack_TakeText.f 20 a = some r ∧ ferruleref01_TakeText.f 20 a = some r := by
  obtain ⟨r, h1, h2⟩ := take_both a
  have h0 := take_f_nonneg h1
  unfold pack_TakeText.f ferruleref01_TakeText.f
  rw [h1, h2]
  simp only [Option.bind_some]
  have hw : IntKind.u64.wrap (r.2.1.size : Int) ≤ r.2.1.size := by
    rw [IntKind.wrap_u64]
    omega
  by_cases c1 : r.2.2 = 0
  · rw [if_pos c1]
    by_cases c2 : r.1 > 4096
    · rw [if_pos c2]
      exact ⟨_, rfl, rfl⟩
    · rw [if_neg c2]
      by_cases c3 : r.1 > IntKind.u64.wrap (r.2.1.size : Int)
      · rw [if_pos c3]
        exact ⟨_, rfl, rfl⟩
      · rw [if_neg c3, if_pos h0, if_pos (by omega)]
        exact ⟨_, rfl, rfl⟩
  · rw [if_neg c1]
    exact ⟨_, rfl, rfl⟩
theorem PackTexts : ferrulelaw01_PackTexts.Pure := by
  intro a b ha hb
  refine ⟨20, ?_⟩
  obtain ⟨r, h1, h2⟩ := texts_both a
  obtain ⟨s, h3, h4⟩ := taketexts_both b
  unfold ferrulelaw01_PackTexts.f
  rw [shown_true, h1, h2, h3, h4]
  simp only [Option.bind_some, if_true, BEq.rfl]
end Go.Proofs.Ytajphdkolpkloaa.Pure
