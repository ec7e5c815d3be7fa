/- Small laws for walks by hand: worlds in one form. Conditions: none. -/
import Derived.Test.YtbjeoaklpcbocaaWMore
import Derived.WalkLawsBesides
import Derived.RegionTactic
import Derived.ChangeAlike
import Derived.BigRegion
import Derived.Outline
namespace Go.Proofs.Ytbjeoaklpcbocaa.Hnd
open Go.RowKit Go.Proofs.YtbjeoaklpcbocaaW.PrintWords
theorem setCell_drewN_ (w : World) (n : Nat) (p : Addr) (v : Value) : (w.drewN n).setCell p v = (w.setCell p v).drewN n := rfl
theorem alloc_drewN_ (w : World) (n : Nat) (o : Obj) : (w.drewN n).alloc o = (w.alloc o).drewN n := rfl
theorem bcell {W w1 : World} (hb : Below W.heap.size W w1) : (∀ b o, b < W.heap.size → w1.cell? ⟨b, o, none⟩ = W.cell? ⟨b, o, none⟩) ∧ (∀ b o, b < W.heap.size → w1.frozen? ⟨b, o, none⟩ = W.frozen? ⟨b, o, none⟩) :=
  ⟨fun b o h => hb.cell (p := ⟨b, o, none⟩) h, fun b o h => hb.frozen (p := ⟨b, o, none⟩) h⟩
/-- A block laid just ahead of a call, behind it. -/
theorem cell_new {W w2 : World} {c : Array Value} {t : TypeId} (hb : Below (W.alloc (.cells c t)).heap.size (W.alloc (.cells c t)) w2) (o : Nat) : w2.cell? ⟨W.heap.size, o, none⟩ = c[o]? :=
  (hb.cell (p := ⟨W.heap.size, o, none⟩) (by simp)).trans (World.cell?_alloc_new ..)
theorem cell_new' {W w2 : World} {c : Array Value} {t : TypeId} (n : Nat) (hn : W.heap.size = n) (hb : Below (W.alloc (.cells c t)).heap.size (W.alloc (.cells c t)) w2) (o : Nat) : w2.cell? ⟨n, o, none⟩ = c[o]? := hn ▸ cell_new hb o
theorem lt_new' {W w2 : World} {o : Obj} (n : Nat) (hn : W.heap.size = n) (hb : Below (W.alloc o).heap.size (W.alloc o) w2) : n < w2.heap.size := by have := hb.size; simp at this; omega
theorem lt_new {W w2 : World} {o : Obj} (hb : Below (W.alloc o).heap.size (W.alloc o) w2) : W.heap.size < w2.heap.size := by have := hb.size; simp at this; omega
/-- An elder block behind a call, and behind a new block. -/
theorem cell_call {W w2 : World} {b : Nat} {c : Array Value} (h : ∀ o, W.cell? ⟨b, o, none⟩ = c[o]?) (hb : Below W.heap.size W w2) (hlt : b < W.heap.size) (o : Nat) : w2.cell? ⟨b, o, none⟩ = c[o]? := (hb.cell (p := ⟨b, o, none⟩) hlt).trans (h o)
theorem cell_alloc {W : World} {b : Nat} {c : Array Value} (h : ∀ o, W.cell? ⟨b, o, none⟩ = c[o]?) (x : Obj) (hlt : b < W.heap.size) (o : Nat) : (W.alloc x).cell? ⟨b, o, none⟩ = c[o]? := (World.cell?_alloc_lt W x ⟨b, o, none⟩ hlt).trans (h o)
theorem lt_call {W w2 : World} {b : Nat} (hb : Below W.heap.size W w2) (hlt : b < W.heap.size) : b < w2.heap.size := Nat.lt_of_lt_of_le hlt hb.size
theorem below_call {w W w2 : World} (h : Below w.heap.size w W) (hb : Below W.heap.size W w2) : Below w.heap.size w w2 := h.trans (hb.mono h.size)
theorem Drawn0.toBelow {w w' : World} (h : Drawn0 w w') : Below w.heap.size w w' := h.below
end Go.Proofs.Ytbjeoaklpcbocaa.Hnd
