/- The pure statement of the law RlogAdds, proved. Conditions: none. -/
import Derived.Test.YtbejichfgednhaaDefRlogAdds
import Derived.Test.YtbejichfgednhaaRlogL
namespace Go.Proofs.Ytbejichfgednhaa.Pure
open Go.RowKit Go.Proofs.Ytbejichfgednhaa.Pr Go.Proofs.YtbejichfgednhaaW.PrintWords Go.Proofs.YtbejichfgednhaaW.PrintLast Go.Proofs.YtbejichfgednhaaW.PrintMore
theorem adds_same (b t : Int) (x : ByteArray) (l : List S36) (e : Int) (d : ByteArray) (hl : l.length ≤ 140737488355328) (hb0 : 0 ≤ b) (hb1 : b ≤ 4611686018427387903) (k : Nat) (hk : l.length + 10 ≤ k) :
    ∃ r : Int × Int × ByteArray × List S36 × Int, r.2.2.2.1.length ≤ l.length + 1 ∧ rlog_Add.f k b t x l e d = some r ∧ ferruleref05_Add.f k b t x l e d = some r := by
  have hk2 : ∃ k', k = k' + 1 := ⟨k - 1, by omega⟩
  obtain ⟨k', rfl⟩ := hk2
  unfold rlog_Add.f ferruleref05_Add.f
  rw [last_f b t x l hl hb0 hb1, rlast_f b t x l hl hb0 hb1 _ (by omega)]
  simp only [Option.bind_some]
  have full : ∀ T, rlog_Add.j0 (k' + 1) T true b t x l e d = some (0, 0, (⟨#[]⟩ : ByteArray), [], 5) ∧ ferruleref05_Add.j0 (k' + 1) T true b t x l e d = some (0, 0, (⟨#[]⟩ : ByteArray), [], 5) := fun T => by
    rw [rlog_Add.j0, ferruleref05_Add.j0, if_pos rfl, if_pos rfl]
    exact ⟨rfl, rfl⟩
  by_cases h : (l.length : Int) ≥ 1024
  · rw [if_pos h, if_pos h, (full _).1, (full _).2]
    exact ⟨_, by simp, rfl, rfl⟩
  · rw [if_neg h, if_neg h]
    by_cases h2 : b + (l.length : Int) ≥ 1099511627776
    · rw [decide_eq_true h2, (full _).1, (full _).2]
      exact ⟨_, by simp, rfl, rfl⟩
    · have ff : ¬ (false = true) := by decide
      rw [decide_eq_false h2, rlog_Add.j0, ferruleref05_Add.j0, if_neg ff, if_neg ff]
      by_cases h3 : e < lastT l t l.length
      · rw [if_pos h3, if_pos h3]
        exact ⟨_, by simp, rfl, rfl⟩
      · rw [if_neg h3, if_neg h3]
        have ho : rlog_own.f b t x l (l.length : Int) = some l := by
          unfold rlog_own.f slices_Clone.f
          rw [if_pos (by omega), (by omega : ((l.length : Int)).toNat = l.length), List.take_length, if_pos (by omega)]
        rw [ho]
        simp only [Option.bind_some, List.length_nil, List.nil_append, List.length_cons]
        rw [if_pos (by omega), if_pos (by omega)]
        simp only [Option.bind_some, rlog_with.f]
        try rw [if_pos (by omega)]
        exact ⟨_, by simp, rfl, rfl⟩
theorem RlogAdds : ferrulelaw05_RlogAdds.Pure := by
  intro b t x l e d hq he
  have hb := hq.1
  simp [Lit.wf, IntKind.min, IntKind.max, IntKind.signed, IntKind.bits] at hb
  have hl : l.length * 24 ≤ 140737488351232 := hq.2.2.2.2.1
  refine ⟨l.length + 10, ?_⟩
  unfold ferrulelaw05_RlogAdds.f
  show (some true).bind _ = _
  simp only [Option.bind_some]
  by_cases h : b > 4611686018427387903
  · rw [if_pos h]
  · rw [if_neg h]
    obtain ⟨r, hr, h1, h2⟩ := adds_same b t x l e d (by omega) (by omega) (by omega) (l.length + 10) (Nat.le_refl _)
    rw [h1, h2]
    simp only [Option.bind_some]
    rw [same_same _ _ _ _ (by omega) _ (by omega)]
    simp
end Go.Proofs.Ytbejichfgednhaa.Pure
