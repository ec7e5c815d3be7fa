/- The document's example: that it holds. Conditions: none. -/
import Derived.Test.YtdlkpejlkijgcaaPr7
namespace Go.Proofs.Ytdlkpejlkijgcaa.Pr
open Go.RowKit Go.Proofs.YtdlkpejlkijgcaaW.PrintWords Go.Proofs.YtdlkpejlkijgcaaW.PrintLast Go.Proofs.YtdlkpejlkijgcaaW.PrintMore
open Go.Proofs.Ytdlkpejlkijgcaa.Hnd
attribute [local go_sem] setCell_drewN_ alloc_drewN_
set_option linter.unusedVariables false
set_option linter.unusedSimpArgs false
def ferrulelaw14_shown.f : Option Bool := some true
theorem do1 : coord_Do.f 9 [] 5 1 0 ⟨#[]⟩ [] false [1, 2] = some ([⟨⟨1, 0⟩, [1, 2], 0⟩], 0, ⟨#[]⟩, 0, false, false) := by kernel_rfl
theorem do2 : coord_Do.f 9 [⟨⟨1, 0⟩, [1, 2], 0⟩] 7 1 0 ⟨#[]⟩ [] false [] = some ([⟨⟨1, 0⟩, [1, 2], 2⟩], 0, ⟨#[]⟩, 0, false, false) := by kernel_rfl
theorem do3 : coord_Do.f 9 [⟨⟨1, 0⟩, [1, 2], 2⟩] 6 1 0 ⟨#[]⟩ [] true [] = some ([⟨⟨1, 0⟩, [1, 2], 2⟩], 0, ⟨#[]⟩, 0, false, false) := by kernel_rfl
theorem lit12 (w : World) : Kd.C (Kd.int .u64) (w.alloc (.cells #[.int .u64 1, .int .u64 2] 28)) (some ⟨w.heap.size, 0, none⟩) ([1, 2] : List Int).length [1, 2] := by
  have b := blk_new w (.cells #[.int .u64 1, .int .u64 2] 28)
  refine ⟨rfl, by decide, fun _ => ⟨_, rfl, fun j p hj => ?_⟩⟩
  have hcell : ∀ i, (w.alloc (.cells #[.int .u64 1, .int .u64 2] 28)).cell? ⟨w.heap.size, i, none⟩ = (#[Value.int .u64 1, .int .u64 2] : Array Value)[i]? := fun i => blk_cell b i
  match j, hj with
  | 0, hj =>
    obtain rfl := Option.some.inj hj
    exact ⟨[.int .u64 1], rfl, rfl, fun i u hu => by
      match i, hu with
      | 0, hu => obtain rfl := Option.some.inj hu; exact hcell 0⟩
  | 1, hj =>
    obtain rfl := Option.some.inj hj
    exact ⟨[.int .u64 2], rfl, rfl, fun i u hu => by
      match i, hu with
      | 0, hu => obtain rfl := Option.some.inj hu; exact hcell 1⟩
set_option maxHeartbeats 2000000 in
set_option maxRecDepth 100000 in
theorem ferrulelaw14_shown.calls (r : Bool) (w : World) (h : ferrulelaw14_shown.f = some r) :
    Calls Try.prog 8 #[] w fun e w' => e = .returned (.bool r) ∧ Below w.heap.size w w' := by
  obtain rfl := Option.some.inj h
  clear h
  go_enter Try.func8, Try.ntmps8
  go_wp2_with fail
  have hlit := lit12 (w.alloc (.cells #[.int .u64 1, .int .u64 0] 34))
  rw [World.size_alloc] at hlit
  refine (coord_Do.calls 9 (fun _ => False) none 0 [] 5 1 0 ⟨#[]⟩ none 0 [] false (some ⟨w.heap.size + 1, 0, none⟩) 2 [1, 2] _ _ _ _ _ _ _ (Kd.V_nil _ _ _ _ _) (Kd.C_nil _ _) (Nat.le_refl _) hlit (by decide) do1).mono ?_
  rintro e w1 ⟨v, rfl, hv, hb⟩
  obtain ⟨A1, c1, rfl⟩ := Kd.V_slice hv
  have HV1 := Aside0.mk hv
  have HB1 := Aside0.mk (below_call (below_alloc (below_alloc (Below.refl _ w) _) _) hb)
  have b1 := blk_below (blk_alloc (blk_new w (.cells #[.int .u64 1, .int .u64 0] 34)) (.cells #[.int .u64 1, .int .u64 2] 28)) hb
  have D1 := Aside0.mk b1
  have x0 := blk_cell b1 0
  have x1 := blk_cell b1 1
  have hlt1 := blk_lt b1
  clear hv hb b1 hlit
  go_wp2_with fail
  refine (coord_Do.calls 9 (fun k => (False ∨ (((w.alloc (.cells #[.int .u64 1, .int .u64 0] 34)).alloc (.cells #[.int .u64 1, .int .u64 2] 28)).heap.size ≤ k)) ∧ k < w1.heap.size) A1 c1 [⟨⟨1, 0⟩, [1, 2], 0⟩] 7 1 0 ⟨#[]⟩ none 0 [] false none 0 [] _ _ _ _ _ _ _ (V_at1 (Kd.V_bound HV1.out) (below_alloc (below_alloc (Below.refl _ _) _) _)) (Kd.C_nil _ _) (Nat.le_refl _) (Kd.C_nil _ _) (Nat.le_refl _) do2).mono ?_
  rintro e w2 ⟨v, rfl, hv, hb⟩
  obtain ⟨A2, c2, rfl⟩ := Kd.V_slice hv
  have HV2 := Aside0.mk hv
  have HB2 := Aside0.mk (below_call (below_alloc (below_alloc HB1.out _) _) hb)
  have b1 := blk_below (blk_alloc (blk_alloc D1.out _) _) hb
  have b2 := blk_below (blk_alloc (blk_new w1 (.cells #[.slice A1 1 c1] 26)) _) hb
  have b3 := blk_below (blk_new (w1.alloc (.cells #[.slice A1 1 c1] 26)) _) hb
  simp only [World.size_alloc] at b3
  have E1 := Aside0.mk b1
  have E2 := Aside0.mk b2
  have E3 := Aside0.mk b3
  clear x0 x1 hv hb hlt1
  have x0 := blk_cell b1 0
  have x1 := blk_cell b1 1
  have y0 := blk_cell b2 0
  have y1 := blk_frozen b2 0
  have hlt1 := blk_lt b1
  have hlt2 := blk_lt b2
  have hlt3 := blk_lt b3
  have hn1 := blk_lt D1.out
  have hne1 : w.heap.size ≠ w1.heap.size := by omega
  clear b1 b2 b3
  go_wp2_with fail
  have hV3 : Kd.V k42 42 ((w2.setCell ⟨w1.heap.size, 0, none⟩ (.slice A2 1 c2)).alloc (.cells #[.int .i64 0, .string ⟨#[]⟩, .int .u64 0, .bool false, .bool false] 30)) 0 (fun _ => True) (.slice A2 ([⟨⟨1, 0⟩, [1, 2], 2⟩] : List S42).length c2) [⟨⟨1, 0⟩, [1, 2], 2⟩] := by
    refine Kd.V_mono (Kd.V_alloc (Kd.V_far (p := ⟨w1.heap.size, 0, none⟩) (V_at1 HV2.out (Below.refl _ _)) ?_ _) _) (fun _ _ => trivial)
    intro k hk
    show k ≠ w1.heap.size
    rcases hk with ⟨_, h⟩ | h
    · omega
    · simp at h; omega
  refine (coord_Do.calls 9 (fun _ => True) A2 c2 [⟨⟨1, 0⟩, [1, 2], 2⟩] 6 1 0 ⟨#[]⟩ none 0 [] true none 0 [] _ _ _ _ _ _ _ (V_at1 hV3 (Below.refl _ _)) (Kd.C_nil _ _) (Nat.le_refl _) (Kd.C_nil _ _) (Nat.le_refl _) do3).mono ?_
  rintro e w3 ⟨v, rfl, hv, hb⟩
  obtain ⟨A3, c3, rfl⟩ := Kd.V_slice hv
  have HB3 := Aside0.mk (below_call (below_alloc (below_set (g := w1.heap.size) (j := 0) (v := .slice A2 1 c2) HB2.out (by omega)) _) hb)
  have hn2 : w1.heap.size + 1 ≠ w1.heap.size := by omega
  have b2 := blk_below (blk_alloc (blk_put (cs' := #[.slice A2 1 c2]) E2.out 0 (.slice A2 1 c2) rfl) _) hb
  have b3 := blk_below (blk_alloc (blk_far (p := ⟨w1.heap.size, 0, none⟩) E3.out hn2 (.slice A2 1 c2)) _) hb
  have b4 := blk_below (blk_new (w2.setCell ⟨w1.heap.size, 0, none⟩ (.slice A2 1 c2)) _) hb
  simp only [World.size_setCell] at b4
  clear x0 x1 y0 y1 hlt1 hlt2 hlt3 hv hb hV3
  have y0 := blk_cell b2 0
  have y1 := blk_cell b3 0
  have y2 := blk_cell b3 4
  have z1 := blk_cell b4 0
  have z2 := blk_cell b4 4
  have hlt2 := blk_lt b2
  have hlt3 := blk_lt b3
  have hlt4 := blk_lt b4
  clear b2 b3 b4
  go_wp2_with fail
  go_ret
  exact ⟨rfl, below_alloc (below_alloc HB3.out _) _⟩
end Go.Proofs.Ytdlkpejlkijgcaa.Pr
