/- Several texts of one depth, laid together. Conditions: none. -/
import Derived.Test.YtfjhlcbpogihmaaVNoteBack1
import Derived.WalkLawsBesides
import Derived.RegionTactic
import Derived.ChangeAlike
import Derived.BigRegion
import Derived.Outline
section
namespace Go.Proofs.Ytfjhlcbpogihmaa.Hnd
open Go.RowKit Go.Proofs.YtfjhlcbpogihmaaW.PrintWords
theorem setCell_drewN_ (w : World) (n : Nat) (p : Addr) (v : Value) : (w.drewN n).setCell p v = (w.setCell p v).drewN n := rfl
theorem alloc_drewN_ (w : World) (n : Nat) (o : Obj) : (w.drewN n).alloc o = (w.alloc o).drewN n := rfl
theorem below_call {w W w2 : World} (h : Below w.heap.size w W) (hb : Below W.heap.size W w2) : Below w.heap.size w w2 := h.trans (hb.mono h.size)
end Go.Proofs.Ytfjhlcbpogihmaa.Hnd
end
