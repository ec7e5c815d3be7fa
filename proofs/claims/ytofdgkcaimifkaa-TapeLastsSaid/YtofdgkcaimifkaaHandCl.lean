/- The three closures of tape: what they do. Conditions: none. -/
import Derived.Test.YtofdgkcaimifkaaPr0
import Derived.Test.YtofdgkcaimifkaaHnd
import Derived.ChangeAlike
namespace Go.Proofs.Ytofdgkcaimifkaa.Pr
open Go.RowKit Go.Proofs.YtofdgkcaimifkaaW.PrintWords Go.Proofs.YtofdgkcaimifkaaW.PrintLast Go.Proofs.YtofdgkcaimifkaaW.PrintMore
open Go.Proofs.Ytofdgkcaimifkaa.Hnd
attribute [local go_sem] setCell_drewN_ alloc_drewN_
set_option linter.unusedVariables false
set_option linter.unusedSimpArgs false
def Wr1 (w : World) (bt : Nat) (u : Value) (e : Ending) (w' : World) : Prop := e = .returned (.tuple #[]) ∧ ∃ n, w' = (w.setCell ⟨bt, 1, none⟩ u).drewN n
def Wr2 (w : World) (bt : Nat) (u v : Value) (e : Ending) (w' : World) : Prop := e = .returned (.tuple #[]) ∧ ∃ n, w' = ((w.setCell ⟨bt, 0, none⟩ u).setCell ⟨bt, 1, none⟩ v).drewN n
set_option maxHeartbeats 1000000 in
theorem write1 (bt bs : Nat) (sf rs s : ByteArray) (p : Int) (off : Bool) (w : World) (hb : w.heap[bt]? = some (.cells #[.string sf, .string rs, .int .i64 p, .bool off] 23 (0, 0))) (hs : w.heap[bs]? = some (.cells #[.string s] 9 (0, 0))) (h1 : rs.size + s.size ≤ 4611686018427387904) :
    Calls Try.prog 22 #[.pointer (some ⟨bt, 0, none⟩), .pointer (some ⟨bs, 0, none⟩)] w (Wr1 w bt (.string (rs ++ s))) := by
  have s1 : rs.size ≤ 4611686018427387904 := by omega
  have s2 : s.size ≤ 4611686018427387904 := by omega
  have kb0 := blk_cell hb 0
  have kb1 := blk_cell hb 1
  have fb1 := blk_frozen hb 1
  have kb2 := blk_cell hs 0
  clear hb hs
  go_enter Try.func22, Try.ntmps22
  go_region
  all_goals
    go_end0
    exact ⟨rfl, 1, rfl⟩
set_option maxHeartbeats 1000000 in
theorem sync1 (bt : Nat) (sf rs : ByteArray) (p : Int) (off : Bool) (w : World) (hb : w.heap[bt]? = some (.cells #[.string sf, .string rs, .int .i64 p, .bool off] 23 (0, 0))) (h1 : sf.size + rs.size ≤ 4611686018427387904) :
    Calls Try.prog 24 #[.pointer (some ⟨bt, 0, none⟩)] w (Wr2 w bt (.string (sf ++ rs)) (.string ⟨#[]⟩)) := by
  have s1 : rs.size ≤ 4611686018427387904 := by omega
  have s2 : sf.size ≤ 4611686018427387904 := by omega
  have kb0 := blk_cell hb 0
  have fb0 := blk_frozen hb 0
  have kb1 := blk_cell hb 1
  have fb1 := blk_frozen hb 1
  clear hb
  go_enter Try.func24, Try.ntmps24
  go_region
  all_goals
    go_end0
    exact ⟨rfl, 1, rfl⟩
set_option maxHeartbeats 1000000 in
theorem install1 (bt bs : Nat) (sf rs s : ByteArray) (p : Int) (off : Bool) (w : World) (hb : w.heap[bt]? = some (.cells #[.string sf, .string rs, .int .i64 p, .bool off] 23 (0, 0))) (hs : w.heap[bs]? = some (.cells #[.string s] 9 (0, 0))) :
    Calls Try.prog 25 #[.pointer (some ⟨bt, 0, none⟩), .pointer (some ⟨bs, 0, none⟩)] w (Wr2 w bt (.string s) (.string ⟨#[]⟩)) := by
  have kb0 := blk_cell hb 0
  have fb0 := blk_frozen hb 0
  have kb1 := blk_cell hb 1
  have fb1 := blk_frozen hb 1
  have kb2 := blk_cell hs 0
  clear hb hs
  go_enter Try.func25, Try.ntmps25
  go_wp2
  go_end0
  exact ⟨rfl, 0, rfl⟩
end Go.Proofs.Ytofdgkcaimifkaa.Pr
