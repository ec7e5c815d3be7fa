/- The pure statement of the law TapeSyncs, proved. Conditions: none. -/
import Derived.Test.YtofdgkcaimifkaaDefTapeSyncs
import Derived.Test.YtofdgkcaimifkaaTapeL
namespace Go.Proofs.Ytofdgkcaimifkaa.Pure
open Go.RowKit Go.Proofs.Ytofdgkcaimifkaa.Pr Go.Proofs.YtofdgkcaimifkaaW.PrintWords Go.Proofs.YtofdgkcaimifkaaW.PrintLast Go.Proofs.YtofdgkcaimifkaaW.PrintMore
theorem sync_both (sf rs : ByteArray) (p : Int) (off : Bool) (h : sf.size + rs.size ≤ 4611686018427387904) : ∃ r, tape_Sync.f sf rs p off = some r ∧ ferruleref03_Sync.f sf rs p off = some r := by
  unfold ferruleref03_Sync.f tape_Sync.f
  rw [if_pos h]
  repeat (first | exact ⟨_, rfl, rfl⟩ | split)
theorem install_both (sf rs : ByteArray) (p : Int) (off : Bool) (s : ByteArray) (h : sf.size + rs.size + s.size ≤ 4611686018427387904) : ∃ r, tape_Install.f sf rs p off s = some r ∧ ferruleref03_Install.f sf rs p off s = some r := by
  unfold ferruleref03_Install.f tape_Install.f
  rw [if_pos h]
  repeat (first | exact ⟨_, rfl, rfl⟩ | split)
theorem TapeSyncs : ferrulelaw03_TapeSyncs.Pure := by
  intro sf rs p off s hq hs
  have h1 : sf.size ≤ 140737488351232 := hq.1
  have h2 : rs.size ≤ 140737488351232 := hq.2.1
  obtain ⟨r, e1, e2⟩ := sync_both sf rs p off (by omega)
  obtain ⟨q, e3, e4⟩ := install_both sf rs p off s (by omega)
  unfold ferrulelaw03_TapeSyncs.f
  rw [shown_true, e1, e2, e3, e4]
  simp
end Go.Proofs.Ytofdgkcaimifkaa.Pure
