/- The pure statement of the law TapeWrites, proved. Conditions: none. -/
import Derived.Test.YtofdgkcaimifkaaDefTapeWrites
import Derived.Test.YtofdgkcaimifkaaTapeL
namespace Go.Proofs.Ytofdgkcaimifkaa.Pure
open Go.RowKit Go.Proofs.Ytofdgkcaimifkaa.Pr Go.Proofs.YtofdgkcaimifkaaW.PrintWords Go.Proofs.YtofdgkcaimifkaaW.PrintLast Go.Proofs.YtofdgkcaimifkaaW.PrintMore
theorem write_both (sf rs : ByteArray) (p : Int) (off : Bool) (s : ByteArray) (h : sf.size + rs.size + s.size ≤ 4611686018427387904) : ∃ r, tape_Write.f sf rs p off s = some r ∧ ferruleref03_Write.f sf rs p off s = some r := by
  unfold ferruleref03_Write.f tape_Write.f
  rw [if_pos h]
  repeat (first | exact ⟨_, rfl, rfl⟩ | split)
theorem TapeWrites : ferrulelaw03_TapeWrites.Pure := by
  intro sf rs p off s hq hs
  have h1 : sf.size ≤ 140737488351232 := hq.1
  have h2 : rs.size ≤ 140737488351232 := hq.2.1
  obtain ⟨r, e1, e2⟩ := write_both sf rs p off s (by omega)
  unfold ferrulelaw03_TapeWrites.f
  rw [shown_true, e1, e2]
  simp
end Go.Proofs.Ytofdgkcaimifkaa.Pure
