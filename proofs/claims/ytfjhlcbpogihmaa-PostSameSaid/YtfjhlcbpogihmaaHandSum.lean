/- seal.Sum: what it computes, and that it does. Conditions: none. -/
import Derived.Test.YtfjhlcbpogihmaaPr0
import Derived.Test.YtfjhlcbpogihmaaHnd
import Derived.Deep.RegionWith
import Derived.Deep.RegionHeld3
namespace Go.Proofs.Ytfjhlcbpogihmaa.Pr
open Go.RowKit Go.Proofs.YtfjhlcbpogihmaaW.PrintWords Go.Proofs.YtfjhlcbpogihmaaW.PrintLast Go.Proofs.YtfjhlcbpogihmaaW.PrintMore
open Go.Proofs.Ytfjhlcbpogihmaa.Hnd
attribute [local go_sem] setCell_drewN_ alloc_drewN_
set_option linter.unusedVariables false
set_option linter.unusedSimpArgs false
/-- The two halves behind the first n bytes. -/
def half (s : ByteArray) : Nat → Int × Int
  | 0 => (1, 0)
  | n + 1 => (((half s n).1 + bt s n) % 65521, ((half s n).2 + ((half s n).1 + bt s n) % 65521) % 65521)
def sumI (s : ByteArray) : Int := (half s s.size).2 * 65536 + (half s s.size).1
theorem half_range (s : ByteArray) : ∀ n, 0 ≤ (half s n).1 ∧ (half s n).1 < 65521 ∧ 0 ≤ (half s n).2 ∧ (half s n).2 < 65521
  | 0 => by simp [half]
  | n + 1 => by
    simp only [half]
    omega
theorem wrap64_big {x : Int} (h0 : 0 ≤ x) (h1 : x ≤ 4611686018427387905) : wrap64 x = x := by
  simp [wrap64]
  omega
def seal_Sum.f (a0 : ByteArray) : Option Int := if a0.size ≤ 4611686018427387904 then some (sumI a0) else none
set_option maxHeartbeats 1000000 in
set_option maxRecDepth 100000 in
theorem seal_Sum.calls (a0 : ByteArray) (r : Int) (w : World) (h : seal_Sum.f a0 = some r) : Calls Try.prog 79 #[.string a0] w fun e w' => e = .returned (.int .u32 r) ∧ Below w.heap.size w w' := by
  unfold seal_Sum.f at h
  by_cases hs : a0.size ≤ 4611686018427387904
  rotate_left
  · rw [if_neg hs] at h; cases h
  rw [if_pos hs] at h
  obtain rfl := Option.some.inj h
  clear h
  have HS := Aside0.mk hs
  clear hs
  go_enter Try.func79, Try.ntmps79
  go_wp2_with fail
  go_loopg [8] a0.size (fun g v8 wr => ∃ i : Nat, v8 = .int .i64 (i : Int) ∧ Aside0 (i ≤ a0.size ∧ a0.size - i ≤ g) ∧ Aside0 (wr.heap[w.heap.size]? = some (.cells #[.int .u32 (half a0 i).1, .int .u32 (half a0 i).2] 140 (0, 0))) ∧ Aside0 (Below w.heap.size w wr))
  case atStart =>
    refine ⟨0, rfl, ⟨by omega⟩, ⟨?_⟩, ⟨?_⟩⟩
    · exact blk_new w _
    · exact (Below.refl w.heap.size w).alloc (Nat.le_refl _) _
  case round =>
    obtain ⟨i, rfl, HI, HK, HB⟩ := hrel
    obtain ⟨x, y, hxy⟩ : ∃ x y, half a0 i = (x, y) := ⟨_, _, rfl⟩
    have hr := half_range a0 i
    rw [hxy] at HK hr
    have kb := fun o => blk_cell HK.out o
    have fb := fun o => blk_frozen HK.out o
    have zb := blk_lt HK.out
    have kb0 := kb 0
    have kb1 := kb 1
    by_cases hlt : (i : Int) < a0.size
    · have hltb := decide_eq_true hlt
      have hnat : i < a0.size := by omega
      have hbt : ((a0[i]'hnat).toNat : Int) = bt a0 i := bt_at a0 (i : Int) hnat
      have hbr := bt_range a0 i
      have hm1 : (x + bt a0 i) % 4294967296 % 65521 = (x + bt a0 i) % 65521 := by omega
      have hm2 : (y + (x + bt a0 i) % 65521) % 4294967296 % 65521 = (y + (x + bt a0 i) % 65521) % 65521 := by omega
      go_upto_region 5 with (fail)
      go_region
      have HK1 := Aside0.mk (blk_drew (blk_put (cs' := #[.int .u32 ((x + bt a0 i) % 65521), .int .u32 y]) HK.out 0 (.int .u32 ((x + bt a0 i) % 65521)) rfl))
      have HB1 := Aside0.mk ((HB.out.setCell (p := ⟨w.heap.size, 0, none⟩) (Nat.le_refl _) (.int .u32 ((x + bt a0 i) % 65521))).drew)
      clear kb fb zb kb0 kb1 HK HB
      obtain ⟨W1, hW⟩ : ∃ W1, (wr.setCell ⟨w.heap.size, 0, none⟩ (.int .u32 ((x + bt a0 i) % 65521))).drew = W1 := ⟨_, rfl⟩
      rw [hW] at HK1 HB1 ⊢
      clear hW
      obtain ⟨x1, hx1⟩ : ∃ x1, (x + bt a0 i) % 65521 = x1 := ⟨_, rfl⟩
      have hrx : 0 ≤ x1 ∧ x1 < 65521 := by omega
      have HX := Aside0.mk hx1
      rw [hx1] at HK1 hm2 ⊢
      clear hx1 hm1
      have kb := fun o => blk_cell HK1.out o
      have fb := fun o => blk_frozen HK1.out o
      have zb := blk_lt HK1.out
      have kb0 := kb 0
      have kb1 := kb 1
      go_wp2
      go_roundg (gk - 1)
      case measure => have := HI.out; omega
      case rel =>
        have hm3 : (y + x1) % 65521 = (half a0 (i + 1)).2 := by simp only [half, hxy]; rw [HX.out]
        have hm4 : x1 = (half a0 (i + 1)).1 := by simp only [half, hxy]; exact HX.out.symm
        refine ⟨i + 1, ?_, ⟨by have := HI.out; omega⟩, ⟨?_⟩, ⟨?_⟩⟩
        · rw [wrap64_big (by omega) (by have := HS.out; omega)]
          rfl
        · rw [← hm3, ← hm4]
          exact blk_put (cs' := #[.int .u32 x1, .int .u32 ((y + x1) % 65521)]) HK1.out 1 _ rfl
        · exact HB1.out.setCell (p := ⟨w.heap.size, 1, none⟩) (Nat.le_refl _) _
    · have hltb := decide_eq_false hlt
      have hie : i = a0.size := by have := HI.out; omega
      have hor : Go.bits .or .u32 (y * 65536) x = sumI a0 := by
        rw [bits_join .u32 32 (by decide) (fun n h0 h1 => by rw [show IntKind.u32.wrap n = n % 4294967296 by simp [IntKind.wrap, IntKind.bits, IntKind.signed]]; omega) 16 _ _ (by omega) (by omega) (by omega) (by omega) (by omega) (by omega)]
        unfold sumI
        rw [← hie, hxy]
      go_wp2
      go_ret
      exact ⟨rfl, HB.out⟩
end Go.Proofs.Ytfjhlcbpogihmaa.Pr
