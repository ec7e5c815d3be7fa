/- Small laws for walks by hand: worlds in one form. Conditions: none. -/
import Derived.Test.YtbjeoaklpcbocaaWMore
import Derived.WalkLawsBesides
import Derived.RegionTactic
import Derived.ChangeAlike
import Derived.BigRegion
import Derived.Outline
namespace Go.Proofs.Ytbjeoaklpcbocaa.Hnd
open Go.RowKit Go.Proofs.YtbjeoaklpcbocaaW.PrintWords
theorem setCell_drewN_ (w : World) (n : Nat) (p : Addr) (v : Value) : (w.drewN n).setCell p v = (w.setCell p v).drewN n := rfl
theorem alloc_drewN_ (w : World) (n : Nat) (o : Obj) : (w.drewN n).alloc o = (w.alloc o).drewN n := rfl
theorem bcell {W w1 : World} (hb : Below W.heap.size W w1) : (∀ b o, b < W.heap.size → w1.cell? ⟨b, o, none⟩ = W.cell? ⟨b, o, none⟩) ∧ (∀ b o, b < W.heap.size → w1.frozen? ⟨b, o, none⟩ = W.frozen? ⟨b, o, none⟩) :=
  ⟨fun b o h => hb.cell (p := ⟨b, o, none⟩) h, fun b o h => hb.frozen (p := ⟨b, o, none⟩) h⟩
/-- A block laid just ahead of a call, behind it. -/
theorem cell_new {W w2 : World} {c : Array Value} {t : TypeId} (hb : Below (W.alloc (.cells c t)).heap.size (W.alloc (.cells c t)) w2) (o : Nat) : w2.cell? ⟨W.heap.size, o, none⟩ = c[o]? :=
  (hb.cell (p := ⟨W.heap.size, o, none⟩) (by simp)).trans (World.cell?_alloc_new ..)
theorem cell_new' {W w2 : World} {c : Array Value} {t : TypeId} (n : Nat) (hn : W.heap.size = n) (hb : Below (W.alloc (.cells c t)).heap.size (W.alloc (.cells c t)) w2) (o : Nat) : w2.cell? ⟨n, o, none⟩ = c[o]? := hn ▸ cell_new hb o
theorem lt_new' {W w2 : World} {o : Obj} (n : Nat) (hn : W.heap.size = n) (hb : Below (W.alloc o).heap.size (W.alloc o) w2) : n < w2.heap.size := by have := hb.size; simp at this; omega
theorem lt_new {W w2 : World} {o : Obj} (hb : Below (W.alloc o).heap.size (W.alloc o) w2) : W.heap.size < w2.heap.size := by have := hb.size; simp at this; omega
theorem cell_newD {W w2 : World} {c : Array Value} {t : TypeId} (hb : Below (W.alloc (.cells c t)).drew.heap.size (W.alloc (.cells c t)).drew w2) (o : Nat) : w2.cell? ⟨W.heap.size, o, none⟩ = c[o]? :=
  (hb.cell (p := ⟨W.heap.size, o, none⟩) (by show W.heap.size < (W.alloc _).heap.size; simp)).trans (World.cell?_alloc_new ..)
theorem frozen_newD {W w2 : World} {c : Array Value} {t : TypeId} (hb : Below (W.alloc (.cells c t)).drew.heap.size (W.alloc (.cells c t)).drew w2) (o : Nat) : w2.frozen? ⟨W.heap.size, o, none⟩ = false :=
  (hb.frozen (p := ⟨W.heap.size, o, none⟩) (by show W.heap.size < (W.alloc _).heap.size; simp)).trans (World.frozen?_alloc_new ..)
theorem blk_newD {W w2 : World} {x : Obj} (hb : Below (W.alloc x).drew.heap.size (W.alloc x).drew w2) : w2.heap[W.heap.size]? = some x :=
  (hb.block W.heap.size (by show W.heap.size < (W.alloc _).heap.size; simp)).trans (heap_alloc_new W x)
theorem lt_newD {W w2 : World} {x : Obj} (hb : Below (W.alloc x).drew.heap.size (W.alloc x).drew w2) : W.heap.size < w2.heap.size := Nat.lt_of_lt_of_le (by show W.heap.size < (W.alloc _).heap.size; simp) hb.size
theorem le_D {W w2 : World} (hb : Below W.drew.heap.size W.drew w2) : W.heap.size ≤ w2.heap.size := hb.size
/-- An elder block behind a call, and behind a new block. -/
theorem cell_call {W w2 : World} {b : Nat} {c : Array Value} (h : ∀ o, W.cell? ⟨b, o, none⟩ = c[o]?) (hb : Below W.heap.size W w2) (hlt : b < W.heap.size) (o : Nat) : w2.cell? ⟨b, o, none⟩ = c[o]? := (hb.cell (p := ⟨b, o, none⟩) hlt).trans (h o)
theorem cell_alloc {W : World} {b : Nat} {c : Array Value} (h : ∀ o, W.cell? ⟨b, o, none⟩ = c[o]?) (x : Obj) (hlt : b < W.heap.size) (o : Nat) : (W.alloc x).cell? ⟨b, o, none⟩ = c[o]? := (World.cell?_alloc_lt W x ⟨b, o, none⟩ hlt).trans (h o)
theorem lt_call {W w2 : World} {b : Nat} (hb : Below W.heap.size W w2) (hlt : b < W.heap.size) : b < w2.heap.size := Nat.lt_of_lt_of_le hlt hb.size
theorem below_call {w W w2 : World} (h : Below w.heap.size w W) (hb : Below W.heap.size W w2) : Below w.heap.size w w2 := h.trans (hb.mono h.size)
theorem blk_store5 {w : World} {g : Nat} {t : TypeId} {a0 a1 a2 a3 a4 : Value} (h : w.heap[g]? = some (.cells #[a0, a1, a2, a3, a4] t (0, 0))) (b0 b1 b2 b3 b4 : Value) :
    (((((w.setCell ⟨g, 0, none⟩ b0).setCell ⟨g, 1, none⟩ b1).setCell ⟨g, 2, none⟩ b2).setCell ⟨g, 3, none⟩ b3).setCell ⟨g, 4, none⟩ b4).heap[g]? = some (.cells #[b0, b1, b2, b3, b4] t (0, 0)) := by
  have h0 := blk_put (cs' := #[b0, a1, a2, a3, a4]) h 0 b0 rfl
  have h1 := blk_put (cs' := #[b0, b1, a2, a3, a4]) h0 1 b1 rfl
  have h2 := blk_put (cs' := #[b0, b1, b2, a3, a4]) h1 2 b2 rfl
  have h3 := blk_put (cs' := #[b0, b1, b2, b3, a4]) h2 3 b3 rfl
  exact blk_put (cs' := #[b0, b1, b2, b3, b4]) h3 4 b4 rfl
theorem blk_far5 {w : World} {g g' : Nat} {o : Obj} (h : w.heap[g']? = some o) (hn : ¬ g' = g) (b0 b1 b2 b3 b4 : Value) :
    (((((w.setCell ⟨g, 0, none⟩ b0).setCell ⟨g, 1, none⟩ b1).setCell ⟨g, 2, none⟩ b2).setCell ⟨g, 3, none⟩ b3).setCell ⟨g, 4, none⟩ b4).heap[g']? = some o := by
  rw [Below.heap_setCell _ _ _ _ hn, Below.heap_setCell _ _ _ _ hn, Below.heap_setCell _ _ _ _ hn, Below.heap_setCell _ _ _ _ hn, Below.heap_setCell _ _ _ _ hn]
  exact h
theorem below_store5 {B : Nat} {a w : World} {g : Nat} (h : Below B a w) (hg : B ≤ g) (b0 b1 b2 b3 b4 : Value) :
    Below B a (((((w.setCell ⟨g, 0, none⟩ b0).setCell ⟨g, 1, none⟩ b1).setCell ⟨g, 2, none⟩ b2).setCell ⟨g, 3, none⟩ b3).setCell ⟨g, 4, none⟩ b4) :=
  ((((h.setCell hg b0).setCell hg b1).setCell hg b2).setCell hg b3).setCell hg b4
theorem Drawn0.toBelow {w w' : World} (h : Drawn0 w w') : Below w.heap.size w w' := h.below
end Go.Proofs.Ytbjeoaklpcbocaa.Hnd
