/- coord.Find: what it computes, and that it does. Conditions: none. -/
import Derived.Test.YtdlkpejlkijgcaaHandClone
import Derived.Test.YtdlkpejlkijgcaaHandPl
namespace Go.Proofs.Ytdlkpejlkijgcaa.Pr
open Go.RowKit Go.Proofs.YtdlkpejlkijgcaaW.PrintWords Go.Proofs.YtdlkpejlkijgcaaW.PrintLast Go.Proofs.YtdlkpejlkijgcaaW.PrintMore
open Go.Proofs.Ytdlkpejlkijgcaa.Hnd
attribute [local go_sem] setCell_drewN_ alloc_drewN_
set_option linter.unusedVariables false
set_option linter.unusedSimpArgs false
def coord_Find.f (l0 : List S42) (a1_0 a1_1 : Int) : Option (Int × Int × List Int × Int × Bool) :=
  if (okAll l0 && okB ⟨a1_0, a1_1⟩) = true then (match plc l0 ⟨a1_0, a1_1⟩ with
    | none => some (0, 0, [], 0, false)
    | some i => if (rd_T42 l0 i).f1.length < 17592186044416 then some ((rd_T42 l0 i).f0.f0, (rd_T42 l0 i).f0.f1, (rd_T42 l0 i).f1, (rd_T42 l0 i).f2, true) else none) else none
/-- What the drawing region reads. -/
def FS (n : Nat) (A : Option Addr) (ln c : Nat) (a b : Int) (W0 W : World) : Prop :=
  W.cell? ⟨n, 0, none⟩ = some (.slice A ln c) ∧ W.cell? ⟨n + 1, 0, none⟩ = some (.int .u64 a) ∧ W.cell? ⟨n + 1, 1, none⟩ = some (.int .u64 b) ∧ Below W0.heap.size W0 W
theorem cell_bel {W W' : World} {a : Addr} {v : Value} (h : W.cell? a = some v) (hb : Below W.heap.size W W') : W'.cell? a = some v := (hb.cell (World.block_lt_of_cell? W _ h)).trans h
theorem fkeep {n : Nat} {A : Option Addr} {ln c : Nat} {a b : Int} {W0 W W' : World} (h : W.cell? ⟨n, 0, none⟩ = some (.slice A ln c) ∧ W.cell? ⟨n + 1, 0, none⟩ = some (.int .u64 a) ∧ W.cell? ⟨n + 1, 1, none⟩ = some (.int .u64 b) ∧ Below W0.heap.size W0 W) (hb : Below W.heap.size W W') :
    W'.cell? ⟨n, 0, none⟩ = some (.slice A ln c) ∧ W'.cell? ⟨n + 1, 0, none⟩ = some (.int .u64 a) ∧ W'.cell? ⟨n + 1, 1, none⟩ = some (.int .u64 b) ∧ Below W0.heap.size W0 W' :=
  ⟨cell_bel h.1 hb, cell_bel h.2.1 hb, cell_bel h.2.2.1 hb, below_call h.2.2.2 hb⟩
theorem fbel {n : Nat} {A : Option Addr} {ln c : Nat} {a b : Int} {W0 W : World} (h : W.cell? ⟨n, 0, none⟩ = some (.slice A ln c) ∧ W.cell? ⟨n + 1, 0, none⟩ = some (.int .u64 a) ∧ W.cell? ⟨n + 1, 1, none⟩ = some (.int .u64 b) ∧ Below W0.heap.size W0 W) : Below W0.heap.size W0 W := h.2.2.2
theorem lookP {w : World} {b n m : Nat} {xs : List S42} {x0 x1 : Int} {o : Option Int} (h : Map54 w b n (plP xs (downL xs.length xs.length)).1 m) (hx : okTx ⟨x0, x1⟩) (hp : plc xs ⟨x0, x1⟩ = o) :
    (Instr.lookup 54 (.map (some b)) (.agg #[.int .u64 x0, .int .u64 x1]) true).run Try.prog w = .ok (.tuple #[.int .i64 (o.getD 0), .bool o.isSome]) w := by
  subst hp
  exact look54 h ⟨x0, x1⟩ hx
theorem put4 {w : World} {g : Nat} {t : TypeId} {a0 a1 a2 a3 : Value} (h : w.heap[g]? = some (.cells #[a0, a1, a2, a3] t (0, 0))) (b0 b1 b2 b3 : Value) :
    ((((w.setCell ⟨g, 0, none⟩ b0).setCell ⟨g, 1, none⟩ b1).setCell ⟨g, 2, none⟩ b2).setCell ⟨g, 3, none⟩ b3).heap[g]? = some (.cells #[b0, b1, b2, b3] t (0, 0)) :=
  blk_put (blk_put (blk_put (blk_put h 0 b0 (cs' := #[b0, a1, a2, a3]) rfl) 1 b1 (cs' := #[b0, b1, a2, a3]) rfl) 2 b2 (cs' := #[b0, b1, b2, a3]) rfl) 3 b3 rfl
theorem below_put4 {w W : World} {g : Nat} (h : Below w.heap.size w W) (hg : w.heap.size ≤ g) (b0 b1 b2 b3 : Value) :
    Below w.heap.size w ((((W.setCell ⟨g, 0, none⟩ b0).setCell ⟨g, 1, none⟩ b1).setCell ⟨g, 2, none⟩ b2).setCell ⟨g, 3, none⟩ b3) := below_set (below_set (below_set (below_set h hg) hg) hg) hg
set_option maxHeartbeats 2000000 in
set_option maxRecDepth 100000 in
theorem coord_Find.calls (A0 : Option Addr) (c0 : Nat) (l0 : List S42) (a1_0 a1_1 : Int) (r1 r2 : Int) (r3 : List Int) (r4 : Int) (r5 : Bool) (w : World) (hr0 : Kd.C k42 w A0 l0.length l0) (hc0 : l0.length ≤ c0) (h : coord_Find.f l0 a1_0 a1_1 = some (r1, r2, r3, r4, r5)) :
    Calls Try.prog 14 #[.agg #[.slice A0 l0.length c0], .agg #[.int .u64 a1_0, .int .u64 a1_1]] w fun e w' => ∃ v0_ : Value, e = .returned (.tuple #[.agg #[.int .u64 r1, .int .u64 r2, v0_, .int .i64 r4], .bool r5]) ∧ Kd.R (Kd.int .u64) 28 w' w.heap.size (fun _ => True) v0_ r3 ∧ Below w.heap.size w w' := by
  unfold coord_Find.f at h
  by_cases hok : (okAll l0 && okB ⟨a1_0, a1_1⟩) = true
  rotate_left
  · rw [if_neg hok] at h; cases h
  rw [if_pos hok] at h
  obtain ⟨hk1, hk2⟩ := Bool.and_eq_true_iff.1 hok
  have hkx := (okB_iff _).1 hk2
  have HR := Aside0.mk hr0
  have HPL := Aside0.mk (fun W (hb : Below w.heap.size w W) => coord_places.calls A0 c0 l0 W (Kd.C_below hr0 hb) (okAll_at hk1))
  clear hok hk1 hk2
  generalize hp : plc l0 ⟨a1_0, a1_1⟩ = o at h
  have HP := Aside0.mk hp
  have HKX := Aside0.mk hkx
  have HH := Aside0.mk h
  clear h hp hkx hr0
  have HN := Aside0.mk (show Below w.heap.size w (((w.alloc (.cells #[.slice A0 l0.length c0] 26)).alloc (.cells #[.int .u64 a1_0, .int .u64 a1_1] 34)).alloc (.cells #[.int .u64 0, .int .u64 0, .slice none 0 0, .int .i64 0] 42)) from below_alloc (below_alloc (below_alloc (Below.refl _ _) _) _) _)
  go_enter Try.func14, Try.ntmps14
  go_wp2_with fail
  have b0 := blk_alloc (blk_alloc (blk_new w (.cells #[.slice A0 l0.length c0] 26)) (.cells #[.int .u64 a1_0, .int .u64 a1_1] 34)) (.cells #[.int .u64 0, .int .u64 0, .slice none 0 0, .int .i64 0] 42)
  have b1 := blk_alloc (blk_new (w.alloc (.cells #[.slice A0 l0.length c0] 26)) (.cells #[.int .u64 a1_0, .int .u64 a1_1] 34)) (.cells #[.int .u64 0, .int .u64 0, .slice none 0 0, .int .i64 0] 42)
  have b2 := blk_new ((w.alloc (.cells #[.slice A0 l0.length c0] 26)).alloc (.cells #[.int .u64 a1_0, .int .u64 a1_1] 34)) (.cells #[.int .u64 0, .int .u64 0, .slice none 0 0, .int .i64 0] 42)
  simp only [World.size_alloc] at b1 b2
  obtain ⟨W0, hW0⟩ : ∃ W0, ((w.alloc (.cells #[.slice A0 l0.length c0] 26)).alloc (.cells #[.int .u64 a1_0, .int .u64 a1_1] 34)).alloc (.cells #[.int .u64 0, .int .u64 0, .slice none 0 0, .int .i64 0] 42) = W0 := ⟨_, rfl⟩
  have hHN := HN.out
  rw [hW0] at b0 b1 b2 hHN ⊢
  clear HN
  have HN := Aside0.mk hHN
  have B0 := Aside0.mk b0
  have B1 := Aside0.mk b1
  have B2 := Aside0.mk b2
  clear hW0 hHN
  have HSS := Aside0.mk (show W0.drew.cell? ⟨w.heap.size, 0, none⟩ = some (.slice A0 l0.length c0) ∧ W0.drew.cell? ⟨w.heap.size + 1, 0, none⟩ = some (.int .u64 a1_0) ∧ W0.drew.cell? ⟨w.heap.size + 1, 1, none⟩ = some (.int .u64 a1_1) ∧ Below W0.heap.size W0 W0.drew from ⟨blk_cell b0 0, blk_cell b1 0, blk_cell b1 1, below_drew1 (Below.refl _ _)⟩)
  clear b0 b1 b2
  (go_region_held3 (fun W' => W'.cell? ⟨w.heap.size, 0, none⟩ = some (.slice A0 l0.length c0) ∧ W'.cell? ⟨w.heap.size + 1, 0, none⟩ = some (.int .u64 a1_0) ∧ W'.cell? ⟨w.heap.size + 1, 1, none⟩ = some (.int .u64 a1_1) ∧ Below W0.heap.size W0 W') (first | (exact HSS.out) | (refine fkeep ?_ hb; assumption) | go_keep)
    (first | (go_at_call 22; refine (HPL.out _ ?hB).mono ?_; (case hB => exact below_call HN.out (fbel (by assumption))); rintro e w1 ⟨rfl, hm, hb⟩; have hlk := lookP (b := W0.heap.size + 1) hm HKX.out HP.out; have HM := Aside0.mk hm; clear hm)))
  have hE := fbel (n := w.heap.size) (A := A0) (ln := l0.length) (c := c0) (a := a1_0) (b := a1_1) (W0 := W0) (W := w1) (by assumption)
  have HE := Aside0.mk hE
  have HB1 := Aside0.mk (below_call HN.out hE)
  have b0 := blk_below B0.out hE
  have b2 := blk_below B2.out hE
  have u0 := blk_cell b0 0
  have f0 := blk_frozen b2 0
  have f1 := blk_frozen b2 1
  have f2 := blk_frozen b2 2
  have f3 := blk_frozen b2 3
  have HB2 := Aside0.mk b2
  have hlt := blk_lt b2
  have e0 := blk_cell b2 0
  have e1 := blk_cell b2 1
  have e2 := blk_cell b2 2
  have e3 := blk_cell b2 3
  cases o with
  | none =>
    clear b0 b2
    go_wp2
    have hH := HH.out
    simp only [Option.some.injEq, Prod.mk.injEq] at hH
    obtain ⟨rfl, rfl, rfl, rfl, rfl⟩ := hH
    have bz := put4 HB2.out (.int .u64 0) (.int .u64 0) (.slice none 0 0) (.int .i64 0)
    have hBl := below_put4 (g := w.heap.size + 1 + 1) HB1.out (by omega) (.int .u64 0) (.int .u64 0) (.slice none 0 0) (.int .i64 0)
    generalize ((((w1.setCell ⟨w.heap.size + 1 + 1, 0, none⟩ (.int .u64 0)).setCell ⟨w.heap.size + 1 + 1, 1, none⟩ (.int .u64 0)).setCell ⟨w.heap.size + 1 + 1, 2, none⟩ (.slice none 0 0)).setCell ⟨w.heap.size + 1 + 1, 3, none⟩ (.int .i64 0)) = W4 at bz hBl ⊢
    have y0 := blk_cell bz 0
    have y1 := blk_cell bz 1
    have y2 := blk_cell bz 2
    have y3 := blk_cell bz 3
    refine bodyPost_ret (v := .tuple #[.agg #[.int .u64 0, .int .u64 0, .slice none 0 0, .int .i64 0], .bool false]) (by simp [results, Try.results14, go_sem, y0, y1, y2, y3]) rfl ?_
    exact ⟨_, rfl, Kd.R_nil _ _ _ _ _, hBl⟩
  | some i =>
    obtain ⟨j, rfl, hj, hT, hF⟩ := plc_some HP.out
    have HR1 := Aside0.mk (Kd.C_below HR.out HB1.out)
    obtain ⟨ad, A2, c2, rfl, q0, q1, q2, q3, l2, g2⟩ := at_T42 HR1.out (j : Int) (by omega) (by omega)
    simp only [Int.toNat_natCast] at q0 q1 q2 q3
    clear b0 b2
    go_wp2_with fail
    by_cases hlen : (rd_T42 l0 (j : Int)).f1.length < 17592186044416
    rotate_left
    · have hH := HH.out
      simp only [if_neg hlen] at hH
      cases hH
    have hH := HH.out
    simp only [if_pos hlen, Option.some.injEq, Prod.mk.injEq] at hH
    obtain ⟨rfl, rfl, rfl, rfl, rfl⟩ := hH
    refine (cloneU.calls A2 c2 _ _ _ (Kd.C_alloc g2 _) l2 (show cloneU.f (rd_T42 l0 (j : Int)).f1 = some (rd_T42 l0 (j : Int)).f1 from if_pos hlen)).mono ?_
    rintro e w2 ⟨v0, rfl, ho, hb⟩
    obtain ⟨A', c', rfl⟩ := Kd.R_slice ho
    have HO := Aside0.mk ho
    have HB5 := Aside0.mk (below_call (below_alloc HB1.out _) hb)
    have d2 := blk_below (blk_alloc HB2.out _) hb
    have d8 := blk_below (blk_new w1 _) hb
    have hne : w.heap.size + 1 + 1 ≠ w1.heap.size := by omega
    have hle1 := HB1.out.size
    have HD2 := Aside0.mk d2
    have HD8 := Aside0.mk d8
    clear e0 e1 e2 e3 f0 f1 f2 f3 u0 q0 q1 q2 q3 ho hb
    have e0 := blk_cell d2 0
    have e1 := blk_cell d2 1
    have e2 := blk_cell d2 2
    have e3 := blk_cell d2 3
    have f0 := blk_frozen d2 0
    have f1 := blk_frozen d2 1
    have f2 := blk_frozen d2 2
    have f3 := blk_frozen d2 3
    have k0 := blk_cell d8 0
    have k1 := blk_cell d8 1
    have k2 := blk_cell d8 2
    have k3 := blk_cell d8 3
    have m0 := blk_frozen d8 2
    clear d2 d8
    go_wp2_with fail
    have hR := Kd.R_mono (ok' := fun k => w1.heap.size + 1 ≤ k) (Kd.R_bound HO.out) (fun k hk => by have := hk.2.1; simpa using this)
    have hR1 := Kd.R_far (p := ⟨w1.heap.size, 2, none⟩) hR (fun k hk => by show k ≠ w1.heap.size; omega) (.slice A' (rd_T42 l0 (j : Int)).f1.length c')
    have hR2 := Kd.R_far (p := ⟨w.heap.size + 1 + 1, 0, none⟩) hR1 (fun k hk => by show k ≠ w.heap.size + 1 + 1; omega) (.int .u64 a1_0)
    have hR3 := Kd.R_far (p := ⟨w.heap.size + 1 + 1, 1, none⟩) hR2 (fun k hk => by show k ≠ w.heap.size + 1 + 1; omega) (.int .u64 a1_1)
    have hR4 := Kd.R_far (p := ⟨w.heap.size + 1 + 1, 2, none⟩) hR3 (fun k hk => by show k ≠ w.heap.size + 1 + 1; omega) (.slice A' (rd_T42 l0 (j : Int)).f1.length c')
    have hR5 := Kd.R_far (p := ⟨w.heap.size + 1 + 1, 3, none⟩) hR4 (fun k hk => by show k ≠ w.heap.size + 1 + 1; omega) (.int .i64 (rd_T42 l0 (j : Int)).f2)
    have hBl := below_put4 (g := w.heap.size + 1 + 1) (below_set (g := w1.heap.size) (j := 2) (v := .slice A' (rd_T42 l0 (j : Int)).f1.length c') HB5.out (by omega)) (by omega) (.int .u64 a1_0) (.int .u64 a1_1) (.slice A' (rd_T42 l0 (j : Int)).f1.length c') (.int .i64 (rd_T42 l0 (j : Int)).f2)
    have bz := put4 (blk_far (p := ⟨w1.heap.size, 2, none⟩) HD2.out hne (.slice A' (rd_T42 l0 (j : Int)).f1.length c')) (.int .u64 a1_0) (.int .u64 a1_1) (.slice A' (rd_T42 l0 (j : Int)).f1.length c') (.int .i64 (rd_T42 l0 (j : Int)).f2)
    generalize (((((w2.setCell ⟨w1.heap.size, 2, none⟩ (.slice A' (rd_T42 l0 (j : Int)).f1.length c')).setCell ⟨w.heap.size + 1 + 1, 0, none⟩ (.int .u64 a1_0)).setCell ⟨w.heap.size + 1 + 1, 1, none⟩ (.int .u64 a1_1)).setCell ⟨w.heap.size + 1 + 1, 2, none⟩ (.slice A' (rd_T42 l0 (j : Int)).f1.length c')).setCell ⟨w.heap.size + 1 + 1, 3, none⟩ (.int .i64 (rd_T42 l0 (j : Int)).f2)) = W4 at bz hBl hR5 ⊢
    have y0 := blk_cell bz 0
    have y1 := blk_cell bz 1
    have y2 := blk_cell bz 2
    have y3 := blk_cell bz 3
    refine bodyPost_ret (v := .tuple #[.agg #[.int .u64 a1_0, .int .u64 a1_1, .slice A' (rd_T42 l0 (j : Int)).f1.length c', .int .i64 (rd_T42 l0 (j : Int)).f2], .bool true]) (by simp [results, Try.results14, go_sem, y0, y1, y2, y3]) rfl ?_
    exact ⟨_, by rw [hT], Kd.R_mono (Kd.R_lower hR5 (by simp; omega)) (fun _ _ => trivial), hBl⟩
end Go.Proofs.Ytdlkpejlkijgcaa.Pr
