/- coord.decides: what it computes, and that it does. Conditions: none. -/
import Derived.Test.YtdlkpejlkijgcaaHandFind
import Derived.Test.YtdlkpejlkijgcaaPr2
import Derived.Test.YtdlkpejlkijgcaaPr5
namespace Go.Proofs.Ytdlkpejlkijgcaa.Pr
open Go.RowKit Go.Proofs.YtdlkpejlkijgcaaW.PrintWords Go.Proofs.YtdlkpejlkijgcaaW.PrintLast Go.Proofs.YtdlkpejlkijgcaaW.PrintMore
open Go.Proofs.Ytdlkpejlkijgcaa.Hnd
attribute [local go_sem] setCell_drewN_ alloc_drewN_
set_option linter.unusedVariables false
set_option linter.unusedSimpArgs false
/-- What became of a deal. -/
def decSt (st : Int) (commit : Bool) : Int := if st = 0 then (if commit then 1 else 2) else st
def decL (l0 : List S42) (i : Int) (commit : Bool) : List S42 := if (rd_T42 l0 i).f2 = 0 then l0.set i.toNat ⟨(rd_T42 l0 i).f0, (rd_T42 l0 i).f1, decSt 0 commit⟩ else l0
def coord_decides.f (l0 : List S42) (a1_0 a1_1 a1_2 : Int) (a1_3 : ByteArray) (l1_4 : List S86) (a1_5 : Bool) (l1_6 : List Int) : Option (List S42 × Int × ByteArray × Int × Bool × Bool) :=
  if (okAll l0 && okB ⟨a1_1, a1_2⟩) = true then (match plc l0 ⟨a1_1, a1_2⟩ with
    | none => if a1_5 = true then some (l0, 7, (⟨#[]⟩ : ByteArray), 0, false, false) else coord_with.f l0 a1_1 a1_2 [] 2
    | some i => if l0.length < 2932031007402 then some (decL l0 i a1_5, 0, (⟨#[]⟩ : ByteArray), 0, false, decSt (rd_T42 l0 i).f2 a1_5 == 1) else none) else none
theorem dkeep {n : Nat} {A : Option Addr} {ln c : Nat} {a b : Int} {W0 W W' : World} (h : W.cell? ⟨n, 0, none⟩ = some (.slice A ln c) ∧ W.cell? ⟨n + 1, 1, none⟩ = some (.int .u64 a) ∧ W.cell? ⟨n + 1, 2, none⟩ = some (.int .u64 b) ∧ Below W0.heap.size W0 W) (hb : Below W.heap.size W W') :
    W'.cell? ⟨n, 0, none⟩ = some (.slice A ln c) ∧ W'.cell? ⟨n + 1, 1, none⟩ = some (.int .u64 a) ∧ W'.cell? ⟨n + 1, 2, none⟩ = some (.int .u64 b) ∧ Below W0.heap.size W0 W' :=
  ⟨cell_bel h.1 hb, cell_bel h.2.1 hb, cell_bel h.2.2.1 hb, below_call h.2.2.2 hb⟩
theorem dbel {n : Nat} {A : Option Addr} {ln c : Nat} {a b : Int} {W0 W : World} (h : W.cell? ⟨n, 0, none⟩ = some (.slice A ln c) ∧ W.cell? ⟨n + 1, 1, none⟩ = some (.int .u64 a) ∧ W.cell? ⟨n + 1, 2, none⟩ = some (.int .u64 b) ∧ Below W0.heap.size W0 W) : Below W0.heap.size W0 W := h.2.2.2
theorem V_at1 {α : Type} {d : Kd α} {e b b' : Nat} {w w1 : World} {ok : Nat → Prop} {v : Value} {xs : List α} (h : Kd.V d e w b ok v xs) (hb : Below w.heap.size w w1) : Kd.V d e w1 b' ok v xs := Kd.V_map h (fun _ hf => Kd.F_below hf hb)
/-- The two results are laid. -/
theorem fin6 {w w0 : World} {g2 g3 base : Nat} {x a0 a1 a2 a3 a4 : Value} {ok : Nat → Prop} {v : Value} {xs : List S42} (h2 : w.heap[g2]? = some (.cells #[x] 26 (0, 0))) (h3 : w.heap[g3]? = some (.cells #[a0, a1, a2, a3, a4] 30 (0, 0)))
    (hv : Kd.V k42 42 w base ok v xs) (hok : ∀ k, ok k → k ≠ g2 ∧ k ≠ g3) (hb : Below w0.heap.size w0 w) (l2 : w0.heap.size ≤ g2) (l3 : w0.heap.size ≤ g3) (hne : g2 ≠ g3) (b0 b1 b2 b3 b4 : Value) {W : World}
    (hW : (((((w.setCell ⟨g2, 0, none⟩ v).setCell ⟨g3, 0, none⟩ b0).setCell ⟨g3, 1, none⟩ b1).setCell ⟨g3, 2, none⟩ b2).setCell ⟨g3, 3, none⟩ b3).setCell ⟨g3, 4, none⟩ b4 = W) :
    W.heap[g2]? = some (.cells #[v] 26 (0, 0)) ∧ W.heap[g3]? = some (.cells #[b0, b1, b2, b3, b4] 30 (0, 0)) ∧ Kd.V k42 42 W base ok v xs ∧ Below w0.heap.size w0 W := by
  subst hW
  refine ⟨blk_far (blk_far (blk_far (blk_far (blk_far (blk_put h2 0 v rfl) hne _) hne _) hne _) hne _) hne _,
    blk_put (blk_put (blk_put (blk_put (blk_put (blk_far (p := ⟨g2, 0, none⟩) h3 (Ne.symm hne) v) 0 b0 (cs' := #[b0, a1, a2, a3, a4]) rfl) 1 b1 (cs' := #[b0, b1, a2, a3, a4]) rfl) 2 b2 (cs' := #[b0, b1, b2, a3, a4]) rfl) 3 b3 (cs' := #[b0, b1, b2, b3, a4]) rfl) 4 b4 rfl, ?_,
    below_set (below_set (below_set (below_set (below_set (below_set hb l2) l3) l3) l3) l3) l3⟩
  exact Kd.V_far (Kd.V_far (Kd.V_far (Kd.V_far (Kd.V_far (Kd.V_far hv (fun k hk => (hok k hk).1) _) (fun k hk => (hok k hk).2) _) (fun k hk => (hok k hk).2) _) (fun k hk => (hok k hk).2) _) (fun k hk => (hok k hk).2) _) (fun k hk => (hok k hk).2) _
/-- A deal's state is written. -/
theorem setSt {W : World} {base : Nat} {ok : Nat → Prop} {g n cap : Nat} {xs : List S42} {j : Nat} (hn : Kd.N k42 42 W base ok (.slice (some ⟨g, 0, none⟩) n cap) xs) (hj : j < xs.length) (st : Int) :
    Kd.N k42 42 (W.setCell ⟨g, j * 4 + 3, none⟩ (.int .i64 st)) base ok (.slice (some ⟨g, 0, none⟩) n cap) (xs.set j ⟨(rd_T42 xs (j : Int)).f0, (rd_T42 xs (j : Int)).f1, st⟩) := by
  have hl := (Kd.N_reads' hn).1
  obtain ⟨cs, hcl, hFK, hcc, hfr⟩ := Kd.N_elem hn z42 (j : Int) (by omega) (by omega)
  rw [show xs.getD (j : Int).toNat z42 = rd_T42 xs (j : Int) from rfl] at hFK
  obtain ⟨A2, c2, rfl, l2, hF2⟩ := k42_openF hFK
  exact (Kd.N_seg hn (j : Int) (by omega) (by omega) (seg := [.int .i64 st]) (j := 3) (x' := ⟨(rd_T42 xs (j : Int)).f0, (rd_T42 xs (j : Int)).f1, st⟩) hcl hcc (Nat.le_refl _) (k42_mkF _ _ ⟨(rd_T42 xs (j : Int)).f0, (rd_T42 xs (j : Int)).f1, st⟩ l2 hF2) (fun _ hk => hk)).1
theorem rd_set {l0 : List S42} {j : Nat} (hj : j < l0.length) (y : S42) : rd_T42 (l0.set j y) (j : Int) = y := by
  unfold rd_T42
  simp [List.getD_eq_getElem?_getD, List.getElem?_set, hj]
theorem rd_decL {l0 : List S42} {j : Nat} (hj : j < l0.length) (b : Bool) : (rd_T42 (decL l0 (j : Int) b) (j : Int)).f2 = decSt (rd_T42 l0 (j : Int)).f2 b := by
  unfold decL
  by_cases h : (rd_T42 l0 (j : Int)).f2 = 0
  · rw [if_pos h, Int.toNat_natCast, rd_set hj, h]
  · rw [if_neg h]
    simp [decSt, h]
theorem len_decL (l0 : List S42) (i : Int) (b : Bool) : (decL l0 i b).length = l0.length := by
  unfold decL
  split <;> simp
theorem set_two {l0 : List S42} {j : Nat} (hj : j < l0.length) (st st' : Int) : (l0.set j ⟨(rd_T42 l0 (j : Int)).f0, (rd_T42 l0 (j : Int)).f1, st⟩).set j ⟨(rd_T42 (l0.set j ⟨(rd_T42 l0 (j : Int)).f0, (rd_T42 l0 (j : Int)).f1, st⟩) (j : Int)).f0, (rd_T42 (l0.set j ⟨(rd_T42 l0 (j : Int)).f0, (rd_T42 l0 (j : Int)).f1, st⟩) (j : Int)).f1, st'⟩ = l0.set j ⟨(rd_T42 l0 (j : Int)).f0, (rd_T42 l0 (j : Int)).f1, st'⟩ := by
  rw [rd_set hj, List.set_set]
/-- A deal's state as the region reads it. -/
theorem st_cell {W : World} {base : Nat} {ok : Nat → Prop} {g n cap : Nat} {xs : List S42} {j : Nat} (hn : Kd.N k42 42 W base ok (.slice (some ⟨g, 0, none⟩) n cap) xs) (hj : j < xs.length) : W.cell? ⟨g, j * 4 + 3, none⟩ = some (.int .i64 (rd_T42 xs (j : Int)).f2) := by
  have hl := (Kd.N_reads' hn).1
  obtain ⟨cs, hcl, hFK, hcc, hfr⟩ := Kd.N_elem hn z42 (j : Int) (by omega) (by omega)
  rw [show xs.getD (j : Int).toNat z42 = rd_T42 xs (j : Int) from rfl] at hFK
  obtain ⟨A2, c2, rfl, l2, hF2⟩ := k42_openF hFK
  exact hcc 3 _ rfl
set_option maxHeartbeats 4000000 in
set_option maxRecDepth 100000 in
theorem coord_decides.calls (P0 : Nat → Prop) (A0 : Option Addr) (c0 : Nat) (l0 : List S42) (a1_0 a1_1 a1_2 : Int) (a1_3 : ByteArray) (A4 : Option Addr) (c4 : Nat) (l1_4 : List S86) (a1_5 : Bool) (A6 : Option Addr) (c6 : Nat) (l1_6 : List Int) (r1 : List S42) (r2 : Int) (r3 : ByteArray) (r4 : Int) (r5 r6 : Bool) (w : World)
    (hs0 : Kd.V k42 42 w w.heap.size (fun k_ => P0 k_) (.slice A0 l0.length c0) l0) (hr4 : Kd.C k86 w A4 l1_4.length l1_4) (hc4 : l1_4.length ≤ c4) (hr6 : Kd.C (Kd.int .u64) w A6 l1_6.length l1_6) (hc6 : l1_6.length ≤ c6) (h : coord_decides.f l0 a1_0 a1_1 a1_2 a1_3 l1_4 a1_5 l1_6 = some (r1, r2, r3, r4, r5, r6)) :
    Calls Try.prog 18 #[.agg #[.slice A0 l0.length c0], .agg #[.int .i64 a1_0, .int .u64 a1_1, .int .u64 a1_2, .string a1_3, .slice A4 l1_4.length c4, .bool a1_5, .slice A6 l1_6.length c6]] w fun e w' => ∃ v0_ : Value, e = .returned (.tuple #[.agg #[v0_], .agg #[.int .i64 r2, .string r3, .int .u64 r4, .bool r5, .bool r6]]) ∧ Kd.V k42 42 w' w.heap.size (fun k_ => (P0 k_ ∨ w.heap.size ≤ k_)) v0_ r1 ∧ Below w.heap.size w w' := by
  clear hr4 hr6
  unfold coord_decides.f at h
  by_cases hok : (okAll l0 && okB ⟨a1_1, a1_2⟩) = true
  rotate_left
  · rw [if_neg hok] at h; cases h
  rw [if_pos hok] at h
  obtain ⟨hk1, hk2⟩ := Bool.and_eq_true_iff.1 hok
  have hkx := (okB_iff _).1 hk2
  obtain ⟨_, hc0, hr0⟩ := Kd.V_reads' hs0
  have HR := Aside0.mk hr0
  have HV := Aside0.mk (Kd.V_bound hs0)
  have HC := Aside0.mk hc0
  have HPL := Aside0.mk (fun W (hb : Below w.heap.size w W) => coord_places.calls A0 c0 l0 W (Kd.C_below hr0 hb) (okAll_at hk1))
  clear hok hk1 hk2
  generalize hp : plc l0 ⟨a1_1, a1_2⟩ = o at h
  have HP := Aside0.mk hp
  have HKX := Aside0.mk hkx
  have HH := Aside0.mk h
  clear h hp hkx hr0 hs0 hc0 hc4 hc6
  have HN := Aside0.mk (show Below w.heap.size w ((((w.alloc (.cells #[.slice A0 l0.length c0] 26)).alloc (.cells #[.int .i64 a1_0, .int .u64 a1_1, .int .u64 a1_2, .string a1_3, .slice A4 l1_4.length c4, .bool a1_5, .slice A6 l1_6.length c6] 38)).alloc (.cells #[.slice none 0 0] 26)).alloc (.cells #[.int .i64 0, .string ⟨#[]⟩, .int .u64 0, .bool false, .bool false] 30)) from below_alloc (below_alloc (below_alloc (below_alloc (Below.refl _ _) _) _) _) _)
  have b0 := blk_alloc (blk_alloc (blk_alloc (blk_new w (.cells #[.slice A0 l0.length c0] 26)) (.cells #[.int .i64 a1_0, .int .u64 a1_1, .int .u64 a1_2, .string a1_3, .slice A4 l1_4.length c4, .bool a1_5, .slice A6 l1_6.length c6] 38)) (.cells #[.slice none 0 0] 26)) (.cells #[.int .i64 0, .string ⟨#[]⟩, .int .u64 0, .bool false, .bool false] 30)
  have b1 := blk_alloc (blk_alloc (blk_new (w.alloc (.cells #[.slice A0 l0.length c0] 26)) (.cells #[.int .i64 a1_0, .int .u64 a1_1, .int .u64 a1_2, .string a1_3, .slice A4 l1_4.length c4, .bool a1_5, .slice A6 l1_6.length c6] 38)) (.cells #[.slice none 0 0] 26)) (.cells #[.int .i64 0, .string ⟨#[]⟩, .int .u64 0, .bool false, .bool false] 30)
  have b2 := blk_alloc (blk_new ((w.alloc (.cells #[.slice A0 l0.length c0] 26)).alloc (.cells #[.int .i64 a1_0, .int .u64 a1_1, .int .u64 a1_2, .string a1_3, .slice A4 l1_4.length c4, .bool a1_5, .slice A6 l1_6.length c6] 38)) (.cells #[.slice none 0 0] 26)) (.cells #[.int .i64 0, .string ⟨#[]⟩, .int .u64 0, .bool false, .bool false] 30)
  have b3 := blk_new (((w.alloc (.cells #[.slice A0 l0.length c0] 26)).alloc (.cells #[.int .i64 a1_0, .int .u64 a1_1, .int .u64 a1_2, .string a1_3, .slice A4 l1_4.length c4, .bool a1_5, .slice A6 l1_6.length c6] 38)).alloc (.cells #[.slice none 0 0] 26)) (.cells #[.int .i64 0, .string ⟨#[]⟩, .int .u64 0, .bool false, .bool false] 30)
  simp only [World.size_alloc] at b1 b2 b3
  have hHN := HN.out
  clear HN
  go_enter Try.func18, Try.ntmps18
  go_wp2_with fail
  obtain ⟨W0, hW0⟩ : ∃ W0, (((w.alloc (.cells #[.slice A0 l0.length c0] 26)).alloc (.cells #[.int .i64 a1_0, .int .u64 a1_1, .int .u64 a1_2, .string a1_3, .slice A4 l1_4.length c4, .bool a1_5, .slice A6 l1_6.length c6] 38)).alloc (.cells #[.slice none 0 0] 26)).alloc (.cells #[.int .i64 0, .string ⟨#[]⟩, .int .u64 0, .bool false, .bool false] 30) = W0 := ⟨_, rfl⟩
  rw [hW0] at b0 b1 b2 b3 hHN ⊢
  have HN := Aside0.mk hHN
  have B0 := Aside0.mk b0
  have B1 := Aside0.mk b1
  have B2 := Aside0.mk b2
  have B3 := Aside0.mk b3
  clear hW0 hHN
  have HSS := Aside0.mk (show W0.drew.cell? ⟨w.heap.size, 0, none⟩ = some (.slice A0 l0.length c0) ∧ W0.drew.cell? ⟨w.heap.size + 1, 1, none⟩ = some (.int .u64 a1_1) ∧ W0.drew.cell? ⟨w.heap.size + 1, 2, none⟩ = some (.int .u64 a1_2) ∧ Below W0.heap.size W0 W0.drew from ⟨blk_cell b0 0, blk_cell b1 1, blk_cell b1 2, below_drew1 (Below.refl _ _)⟩)
  clear b0 b1 b2 b3
  (go_region_held3 (fun W' => W'.cell? ⟨w.heap.size, 0, none⟩ = some (.slice A0 l0.length c0) ∧ W'.cell? ⟨w.heap.size + 1, 1, none⟩ = some (.int .u64 a1_1) ∧ W'.cell? ⟨w.heap.size + 1, 2, none⟩ = some (.int .u64 a1_2) ∧ Below W0.heap.size W0 W') (first | (exact HSS.out) | (refine dkeep ?_ hb; assumption) | go_keep)
    (first | (go_at_call 22; refine (HPL.out _ ?hB).mono ?_; (case hB => exact below_call HN.out (dbel (by assumption))); rintro e w1 ⟨rfl, hm, hb⟩; have hlk := lookP (b := W0.heap.size + 1) hm HKX.out HP.out; have HM := Aside0.mk hm; clear hm)))
  have hE := dbel (n := w.heap.size) (A := A0) (ln := l0.length) (c := c0) (a := a1_1) (b := a1_2) (W0 := W0) (W := w1) (by assumption)
  have HE := Aside0.mk hE
  have HB1 := Aside0.mk (below_call HN.out hE)
  have b0 := blk_below B0.out hE
  have b1 := blk_below B1.out hE
  have b2 := blk_below B2.out hE
  have b3 := blk_below B3.out hE
  have u0 := blk_cell b0 0
  have u1 := blk_cell b1 1
  have u2 := blk_cell b1 2
  have u5 := blk_cell b1 5
  have v0 := blk_cell b2 0
  have v1 := blk_frozen b2 0
  have D0 := Aside0.mk b0
  have D1 := Aside0.mk b1
  have D2 := Aside0.mk b2
  have D3 := Aside0.mk b3
  clear b0 b1 b2 b3
  cases o with
  | none =>
    have hH := HH.out
    dsimp only at hH
    cases a1_5 with
    | true =>
      rw [if_pos rfl] at hH
      simp only [Option.some.injEq, Prod.mk.injEq] at hH
      obtain ⟨rfl, rfl, rfl, rfl, rfl, rfl⟩ := hH
      go_wp2_with fail
      refine (coord_no.calls (fun k => P0 k ∧ k < w.heap.size) A0 c0 l0 7 _ _ _ _ _ _ _ (V_at1 HV.out HB1.out) rfl).mono ?_
      rintro e w2 ⟨v, rfl, hv, hb⟩
      obtain ⟨A', c', rfl⟩ := Kd.V_slice hv
      have HV2 := Aside0.mk hv
      have HB2 := Aside0.mk (below_call HB1.out hb)
      have d2 := blk_below D2.out hb
      have d3 := blk_below D3.out hb
      have E2 := Aside0.mk d2
      have E3 := Aside0.mk d3
      clear u0 u1 u2 u5 v0 v1 hv hb hE
      have e0 := blk_cell d2 0
      have f0 := blk_frozen d2 0
      have k0 := blk_cell d3 0
      have k1 := blk_cell d3 1
      have k2 := blk_cell d3 2
      have k3 := blk_cell d3 3
      have k4 := blk_cell d3 4
      have m0 := blk_frozen d3 0
      have m1 := blk_frozen d3 1
      have m2 := blk_frozen d3 2
      have m3 := blk_frozen d3 3
      have m4 := blk_frozen d3 4
      have hlt3 := blk_lt D3.out
      clear d2 d3
      go_wp2_with fail
      generalize hW : (((((w2.setCell ⟨w.heap.size + 1 + 1, 0, none⟩ _).setCell ⟨w.heap.size + 1 + 1 + 1, 0, none⟩ _).setCell ⟨w.heap.size + 1 + 1 + 1, 1, none⟩ _).setCell ⟨w.heap.size + 1 + 1 + 1, 2, none⟩ _).setCell ⟨w.heap.size + 1 + 1 + 1, 3, none⟩ _).setCell ⟨w.heap.size + 1 + 1 + 1, 4, none⟩ _ = W4
      obtain ⟨z2, z3, zV, zB⟩ := fin6 E2.out E3.out HV2.out (by rintro k (⟨h1, h2⟩ | h) <;> omega) HB2.out (by omega) (by omega) (by omega) _ _ _ _ _ hW
      clear hW e0 f0 k0 k1 k2 k3 k4 m0 m1 m2 m3 m4
      have y0 := blk_cell z2 0
      have x0 := blk_cell z3 0
      have x1 := blk_cell z3 1
      have x2 := blk_cell z3 2
      have x3 := blk_cell z3 3
      have x4 := blk_cell z3 4
      refine bodyPost_ret (v := .tuple #[.agg #[.slice A' l0.length c'], .agg #[.int .i64 7, .string ⟨#[]⟩, .int .u64 0, .bool false, .bool false]]) (by simp [results, Try.results18, go_sem, y0, x0, x1, x2, x3, x4]) rfl ?_
      exact ⟨_, rfl, Kd.V_mono zV (by rintro k (⟨h1, h2⟩ | h) <;> first | exact .inl h1 | exact .inr (by omega)), zB⟩
    | false =>
      rw [if_neg (by simp)] at hH
      have HW := Aside0.mk hH
      clear hH
      go_wp2_with fail
      refine (coord_with.calls (fun k => P0 k ∧ k < w.heap.size) A0 c0 l0 a1_1 a1_2 (fun _ => False) none 0 [] 2 r1 r2 r3 r4 r5 r6 _ (V_at1 HV.out HB1.out) (Kd.V_nil _ _ _ _ _) HW.out).mono ?_
      rintro e w2 ⟨v, rfl, hv, hb⟩
      obtain ⟨A', c', rfl⟩ := Kd.V_slice hv
      have HV2 := Aside0.mk hv
      have HB2 := Aside0.mk (below_call HB1.out hb)
      have d2 := blk_below D2.out hb
      have d3 := blk_below D3.out hb
      have E2 := Aside0.mk d2
      have E3 := Aside0.mk d3
      clear u0 u1 u2 u5 v0 v1 hv hb hE
      have e0 := blk_cell d2 0
      have f0 := blk_frozen d2 0
      have k0 := blk_cell d3 0
      have k1 := blk_cell d3 1
      have k2 := blk_cell d3 2
      have k3 := blk_cell d3 3
      have k4 := blk_cell d3 4
      have m0 := blk_frozen d3 0
      have m1 := blk_frozen d3 1
      have m2 := blk_frozen d3 2
      have m3 := blk_frozen d3 3
      have m4 := blk_frozen d3 4
      have hlt3 := blk_lt D3.out
      clear d2 d3
      go_wp2_with fail
      generalize hW : (((((w2.setCell ⟨w.heap.size + 1 + 1, 0, none⟩ _).setCell ⟨w.heap.size + 1 + 1 + 1, 0, none⟩ _).setCell ⟨w.heap.size + 1 + 1 + 1, 1, none⟩ _).setCell ⟨w.heap.size + 1 + 1 + 1, 2, none⟩ _).setCell ⟨w.heap.size + 1 + 1 + 1, 3, none⟩ _).setCell ⟨w.heap.size + 1 + 1 + 1, 4, none⟩ _ = W4
      obtain ⟨z2, z3, zV, zB⟩ := fin6 E2.out E3.out HV2.out (by rintro k ((⟨h1, h2⟩ | h) | h) <;> first | omega | exact False.elim h) HB2.out (by omega) (by omega) (by omega) _ _ _ _ _ hW
      clear hW e0 f0 k0 k1 k2 k3 k4 m0 m1 m2 m3 m4
      have y0 := blk_cell z2 0
      have x0 := blk_cell z3 0
      have x1 := blk_cell z3 1
      have x2 := blk_cell z3 2
      have x3 := blk_cell z3 3
      have x4 := blk_cell z3 4
      refine bodyPost_ret (v := .tuple #[.agg #[.slice A' r1.length c'], .agg #[.int .i64 r2, .string r3, .int .u64 r4, .bool r5, .bool r6]]) (by simp [results, Try.results18, go_sem, y0, x0, x1, x2, x3, x4]) rfl ?_
      exact ⟨_, rfl, Kd.V_mono zV (by rintro k ((⟨h1, h2⟩ | h) | h) <;> first | exact .inl h1 | exact False.elim h | exact .inr (by omega)), zB⟩
  | some i =>
    obtain ⟨j, rfl, hj, hT, hF⟩ := plc_some HP.out
    have hH := HH.out
    dsimp only at hH
    by_cases hlen : l0.length < 2932031007402
    rotate_left
    · rw [if_neg hlen] at hH
      cases hH
    rw [if_pos hlen] at hH
    simp only [Option.some.injEq, Prod.mk.injEq] at hH
    obtain ⟨rfl, rfl, rfl, rfl, rfl, rfl⟩ := hH
    go_wp2_with fail
    refine (cloneD.calls (fun k => P0 k ∧ k < w.heap.size) A0 c0 l0 l0 _ (V_at1 HV.out HB1.out) (if_pos hlen)).mono ?_
    rintro e w2 ⟨v, rfl, hn, hb⟩
    obtain ⟨g, cap, rfl, hg1, hg2, _⟩ := Kd.N_form hn (by omega)
    have HN2 := Aside0.mk hn
    have HB2 := Aside0.mk (below_call HB1.out hb)
    have d0 := blk_below D0.out hb
    have d1 := blk_below D1.out hb
    have E0 := Aside0.mk d0
    have E1 := Aside0.mk d1
    have E2 := Aside0.mk (blk_below D2.out hb)
    have E3 := Aside0.mk (blk_below D3.out hb)
    clear u0 u1 u2 u5 v0 v1 hb hE hn
    have e0 := blk_cell d0 0
    have f0 := blk_frozen d0 0
    have e5 := blk_cell d1 5
    have hlt3 := blk_lt D3.out
    have hne0 : w.heap.size ≠ g := by omega
    have hne1 : w.heap.size + 1 ≠ g := by omega
    obtain ⟨cs, hcl, hFK, hcc, hfr⟩ := Kd.N_elem HN2.out z42 (j : Int) (by omega) (by omega)
    rw [show l0.getD (j : Int).toNat z42 = rd_T42 l0 (j : Int) from rfl] at hFK
    obtain ⟨A2, c2, rfl, l2, hF2⟩ := k42_openF hFK
    have hsz : (k42).sz = 4 := rfl
    simp only [Int.toNat_natCast, hsz] at hcc hfr
    have q3 := hcc 3 _ rfl
    have r3 := hfr 3
    have hjb0 : (0 : Int) ≤ (j : Int) := by omega
    have hjb1 : (j : Int) < (l0.length : Int) := by omega
    have FC := Aside0.mk hcc
    have FK := Aside0.mk hFK
    clear d0 d1 hcc hfr hFK hF2
    obtain ⟨x, hx⟩ : ∃ x, rd_T42 l0 (j : Int) = x := ⟨_, rfl⟩
    have HX := Aside0.mk hx
    rw [hx] at q3 FK
    have HN3 := Aside0.mk (Kd.N_far (p := ⟨w.heap.size, 0, none⟩) HN2.out (by rintro k (⟨h1, h2⟩ | h) <;> (show k ≠ w.heap.size) <;> omega) (.slice (some ⟨g, 0, none⟩) l0.length cap))
    by_cases hz : x.f2 = 0
    · have hzb : (x.f2 == 0) = true := beq_iff_eq.mpr hz
      cases a1_5 with
      | true =>
        go_wp2_with fail
        have hN5 : Kd.N k42 42 (((w2.setCell ⟨w.heap.size, 0, none⟩ (.slice (some ⟨g, 0, none⟩) l0.length cap)).setCell ⟨g, j * 4 + 3, none⟩ (.int .i64 2)).setCell ⟨g, j * 4 + 3, none⟩ (.int .i64 1)) w1.heap.size (fun k_ => ((P0 k_ ∧ k_ < w.heap.size) ∨ w1.heap.size ≤ k_)) (.slice (some ⟨g, 0, none⟩) l0.length cap) (decL l0 (j : Int) true) := by
          have h := setSt (j := j) (setSt (j := j) HN3.out hj 2) (by rw [List.length_set]; exact hj) 1
          rw [set_two hj] at h
          rw [show decL l0 (j : Int) true = l0.set j ⟨(rd_T42 l0 (j : Int)).f0, (rd_T42 l0 (j : Int)).f1, 1⟩ from by unfold decL; rw [if_pos (by rw [HX.out]; exact hz)]; rfl]
          exact h
        have hB5 : Below w.heap.size w (((w2.setCell ⟨w.heap.size, 0, none⟩ (.slice (some ⟨g, 0, none⟩) l0.length cap)).setCell ⟨g, j * 4 + 3, none⟩ (.int .i64 2)).setCell ⟨g, j * 4 + 3, none⟩ (.int .i64 1)) := (below_set (g := g) (below_set (g := g) (below_set (g := w.heap.size) HB2.out (Nat.le_refl _)) (by omega)) (by omega))
        have z0 := (blk_far (p := ⟨g, j * 4 + 3, none⟩) (blk_far (p := ⟨g, j * 4 + 3, none⟩) (blk_put (cs' := #[(.slice (some ⟨g, 0, none⟩) l0.length cap)]) E0.out 0 (.slice (some ⟨g, 0, none⟩) l0.length cap) rfl) hne0 (.int .i64 2)) hne0 (.int .i64 1))
        have z2 := (blk_far (p := ⟨g, j * 4 + 3, none⟩) (blk_far (p := ⟨g, j * 4 + 3, none⟩) (blk_far (p := ⟨w.heap.size, 0, none⟩) E2.out (by show w.heap.size + 1 + 1 ≠ w.heap.size; omega) (.slice (some ⟨g, 0, none⟩) l0.length cap)) (by show w.heap.size + 1 + 1 ≠ g; omega) (.int .i64 2)) (by show w.heap.size + 1 + 1 ≠ g; omega) (.int .i64 1))
        have z3 := (blk_far (p := ⟨g, j * 4 + 3, none⟩) (blk_far (p := ⟨g, j * 4 + 3, none⟩) (blk_far (p := ⟨w.heap.size, 0, none⟩) E3.out (by show w.heap.size + 1 + 1 + 1 ≠ w.heap.size; omega) (.slice (some ⟨g, 0, none⟩) l0.length cap)) (by show w.heap.size + 1 + 1 + 1 ≠ g; omega) (.int .i64 2)) (by show w.heap.size + 1 + 1 + 1 ≠ g; omega) (.int .i64 1))
        generalize hW : (((w2.setCell ⟨w.heap.size, 0, none⟩ (.slice (some ⟨g, 0, none⟩) l0.length cap)).setCell ⟨g, j * 4 + 3, none⟩ (.int .i64 2)).setCell ⟨g, j * 4 + 3, none⟩ (.int .i64 1)) = W5 at hN5 hB5 z0 z2 z3 ⊢
        have HN5 := Aside0.mk hN5
        have HB5 := Aside0.mk hB5
        have hst := st_cell hN5 (j := j) (by rw [len_decL]; exact hj)
        rw [rd_decL hj] at hst
        have HZ2 := Aside0.mk z2
        have HZ3 := Aside0.mk z3
        have y0 := blk_cell z0 0
        have y2 := blk_cell z2 0
        have y3 := blk_frozen z2 0
        have k0 := blk_cell z3 0
        have k1 := blk_cell z3 1
        have k2 := blk_cell z3 2
        have k3 := blk_cell z3 3
        have k4 := blk_cell z3 4
        have m0 := blk_frozen z3 0
        have m1 := blk_frozen z3 1
        have m2 := blk_frozen z3 2
        have m3 := blk_frozen z3 3
        have m4 := blk_frozen z3 4
        have hl2 := blk_lt z2
        have hl3 := blk_lt z3
        obtain ⟨st, hst'⟩ : ∃ st, decSt (rd_T42 l0 (j : Int)).f2 true = st := ⟨_, rfl⟩
        rw [hst'] at hst
        have HST := Aside0.mk hst'
        clear hW q3 r3 e0 f0 e5 hN5 hB5 z0 z2 z3 hst'
        go_region
        generalize hW : (((((W5.setCell ⟨w.heap.size + 1 + 1, 0, none⟩ _).setCell ⟨w.heap.size + 1 + 1 + 1, 0, none⟩ _).setCell ⟨w.heap.size + 1 + 1 + 1, 1, none⟩ _).setCell ⟨w.heap.size + 1 + 1 + 1, 2, none⟩ _).setCell ⟨w.heap.size + 1 + 1 + 1, 3, none⟩ _).setCell ⟨w.heap.size + 1 + 1 + 1, 4, none⟩ _ = W6
        obtain ⟨z2, z3, zV, zB⟩ := fin6 HZ2.out HZ3.out (Kd.N_V (base' := w.heap.size) HN5.out) (by rintro k (⟨h1, h2⟩ | h) <;> omega) HB5.out (by omega) (by omega) (by omega) _ _ _ _ _ hW
        clear hW hst y0 y2 y3 k0 k1 k2 k3 k4 m0 m1 m2 m3 m4
        go_wp2_with fail
        have y0 := blk_cell (blk_drew z2) 0
        have x0 := blk_cell (blk_drew z3) 0
        have x1 := blk_cell (blk_drew z3) 1
        have x2 := blk_cell (blk_drew z3) 2
        have x3 := blk_cell (blk_drew z3) 3
        have x4 := blk_cell (blk_drew z3) 4
        refine bodyPost_ret (v := .tuple #[.agg #[.slice (some ⟨g, 0, none⟩) l0.length cap], .agg #[.int .i64 0, .string ⟨#[]⟩, .int .u64 0, .bool false, .bool (st == 1)]]) (by simp [results, Try.results18, go_sem, y0, x0, x1, x2, x3, x4]) rfl ?_
        exact ⟨_, by rw [HST.out], Kd.V_drew (Kd.V_mono zV (by rintro k (⟨h1, h2⟩ | h) <;> first | exact .inl h1 | exact .inr (by omega))), below_drew1 zB⟩
      | false =>
        go_wp2_with fail
        have hN5 : Kd.N k42 42 ((w2.setCell ⟨w.heap.size, 0, none⟩ (.slice (some ⟨g, 0, none⟩) l0.length cap)).setCell ⟨g, j * 4 + 3, none⟩ (.int .i64 2)) w1.heap.size (fun k_ => ((P0 k_ ∧ k_ < w.heap.size) ∨ w1.heap.size ≤ k_)) (.slice (some ⟨g, 0, none⟩) l0.length cap) (decL l0 (j : Int) false) := by
          have h := setSt (j := j) HN3.out hj 2
          rw [show decL l0 (j : Int) false = l0.set j ⟨(rd_T42 l0 (j : Int)).f0, (rd_T42 l0 (j : Int)).f1, 2⟩ from by unfold decL; rw [if_pos (by rw [HX.out]; exact hz)]; rfl]
          exact h
        have hB5 : Below w.heap.size w ((w2.setCell ⟨w.heap.size, 0, none⟩ (.slice (some ⟨g, 0, none⟩) l0.length cap)).setCell ⟨g, j * 4 + 3, none⟩ (.int .i64 2)) := (below_set (g := g) (below_set (g := w.heap.size) HB2.out (Nat.le_refl _)) (by omega))
        have z0 := (blk_far (p := ⟨g, j * 4 + 3, none⟩) (blk_put (cs' := #[(.slice (some ⟨g, 0, none⟩) l0.length cap)]) E0.out 0 (.slice (some ⟨g, 0, none⟩) l0.length cap) rfl) hne0 (.int .i64 2))
        have z2 := (blk_far (p := ⟨g, j * 4 + 3, none⟩) (blk_far (p := ⟨w.heap.size, 0, none⟩) E2.out (by show w.heap.size + 1 + 1 ≠ w.heap.size; omega) (.slice (some ⟨g, 0, none⟩) l0.length cap)) (by show w.heap.size + 1 + 1 ≠ g; omega) (.int .i64 2))
        have z3 := (blk_far (p := ⟨g, j * 4 + 3, none⟩) (blk_far (p := ⟨w.heap.size, 0, none⟩) E3.out (by show w.heap.size + 1 + 1 + 1 ≠ w.heap.size; omega) (.slice (some ⟨g, 0, none⟩) l0.length cap)) (by show w.heap.size + 1 + 1 + 1 ≠ g; omega) (.int .i64 2))
        generalize hW : ((w2.setCell ⟨w.heap.size, 0, none⟩ (.slice (some ⟨g, 0, none⟩) l0.length cap)).setCell ⟨g, j * 4 + 3, none⟩ (.int .i64 2)) = W5 at hN5 hB5 z0 z2 z3 ⊢
        have HN5 := Aside0.mk hN5
        have HB5 := Aside0.mk hB5
        have hst := st_cell hN5 (j := j) (by rw [len_decL]; exact hj)
        rw [rd_decL hj] at hst
        have HZ2 := Aside0.mk z2
        have HZ3 := Aside0.mk z3
        have y0 := blk_cell z0 0
        have y2 := blk_cell z2 0
        have y3 := blk_frozen z2 0
        have k0 := blk_cell z3 0
        have k1 := blk_cell z3 1
        have k2 := blk_cell z3 2
        have k3 := blk_cell z3 3
        have k4 := blk_cell z3 4
        have m0 := blk_frozen z3 0
        have m1 := blk_frozen z3 1
        have m2 := blk_frozen z3 2
        have m3 := blk_frozen z3 3
        have m4 := blk_frozen z3 4
        have hl2 := blk_lt z2
        have hl3 := blk_lt z3
        obtain ⟨st, hst'⟩ : ∃ st, decSt (rd_T42 l0 (j : Int)).f2 false = st := ⟨_, rfl⟩
        rw [hst'] at hst
        have HST := Aside0.mk hst'
        clear hW q3 r3 e0 f0 e5 hN5 hB5 z0 z2 z3 hst'
        go_region
        generalize hW : (((((W5.setCell ⟨w.heap.size + 1 + 1, 0, none⟩ _).setCell ⟨w.heap.size + 1 + 1 + 1, 0, none⟩ _).setCell ⟨w.heap.size + 1 + 1 + 1, 1, none⟩ _).setCell ⟨w.heap.size + 1 + 1 + 1, 2, none⟩ _).setCell ⟨w.heap.size + 1 + 1 + 1, 3, none⟩ _).setCell ⟨w.heap.size + 1 + 1 + 1, 4, none⟩ _ = W6
        obtain ⟨z2, z3, zV, zB⟩ := fin6 HZ2.out HZ3.out (Kd.N_V (base' := w.heap.size) HN5.out) (by rintro k (⟨h1, h2⟩ | h) <;> omega) HB5.out (by omega) (by omega) (by omega) _ _ _ _ _ hW
        clear hW hst y0 y2 y3 k0 k1 k2 k3 k4 m0 m1 m2 m3 m4
        go_wp2_with fail
        have y0 := blk_cell (blk_drew z2) 0
        have x0 := blk_cell (blk_drew z3) 0
        have x1 := blk_cell (blk_drew z3) 1
        have x2 := blk_cell (blk_drew z3) 2
        have x3 := blk_cell (blk_drew z3) 3
        have x4 := blk_cell (blk_drew z3) 4
        refine bodyPost_ret (v := .tuple #[.agg #[.slice (some ⟨g, 0, none⟩) l0.length cap], .agg #[.int .i64 0, .string ⟨#[]⟩, .int .u64 0, .bool false, .bool (st == 1)]]) (by simp [results, Try.results18, go_sem, y0, x0, x1, x2, x3, x4]) rfl ?_
        exact ⟨_, by rw [HST.out], Kd.V_drew (Kd.V_mono zV (by rintro k (⟨h1, h2⟩ | h) <;> first | exact .inl h1 | exact .inr (by omega))), below_drew1 zB⟩
    · have hzb : (x.f2 == 0) = false := beq_eq_false_iff_ne.mpr hz
      go_wp2_with fail
      have hN5 : Kd.N k42 42 (w2.setCell ⟨w.heap.size, 0, none⟩ (.slice (some ⟨g, 0, none⟩) l0.length cap)) w1.heap.size (fun k_ => ((P0 k_ ∧ k_ < w.heap.size) ∨ w1.heap.size ≤ k_)) (.slice (some ⟨g, 0, none⟩) l0.length cap) (decL l0 (j : Int) a1_5) := by
        rw [show decL l0 (j : Int) a1_5 = l0 from by unfold decL; rw [if_neg (by rw [HX.out]; exact hz)]]
        exact HN3.out
      have hB5 : Below w.heap.size w (w2.setCell ⟨w.heap.size, 0, none⟩ (.slice (some ⟨g, 0, none⟩) l0.length cap)) := (below_set (g := w.heap.size) HB2.out (Nat.le_refl _))
      have z0 := (blk_put (cs' := #[(.slice (some ⟨g, 0, none⟩) l0.length cap)]) E0.out 0 (.slice (some ⟨g, 0, none⟩) l0.length cap) rfl)
      have z2 := (blk_far (p := ⟨w.heap.size, 0, none⟩) E2.out (by show w.heap.size + 1 + 1 ≠ w.heap.size; omega) (.slice (some ⟨g, 0, none⟩) l0.length cap))
      have z3 := (blk_far (p := ⟨w.heap.size, 0, none⟩) E3.out (by show w.heap.size + 1 + 1 + 1 ≠ w.heap.size; omega) (.slice (some ⟨g, 0, none⟩) l0.length cap))
      generalize hW : (w2.setCell ⟨w.heap.size, 0, none⟩ (.slice (some ⟨g, 0, none⟩) l0.length cap)) = W5 at hN5 hB5 z0 z2 z3 ⊢
      have HN5 := Aside0.mk hN5
      have HB5 := Aside0.mk hB5
      have hst := st_cell hN5 (j := j) (by rw [len_decL]; exact hj)
      rw [rd_decL hj] at hst
      have HZ2 := Aside0.mk z2
      have HZ3 := Aside0.mk z3
      have y0 := blk_cell z0 0
      have y2 := blk_cell z2 0
      have y3 := blk_frozen z2 0
      have k0 := blk_cell z3 0
      have k1 := blk_cell z3 1
      have k2 := blk_cell z3 2
      have k3 := blk_cell z3 3
      have k4 := blk_cell z3 4
      have m0 := blk_frozen z3 0
      have m1 := blk_frozen z3 1
      have m2 := blk_frozen z3 2
      have m3 := blk_frozen z3 3
      have m4 := blk_frozen z3 4
      have hl2 := blk_lt z2
      have hl3 := blk_lt z3
      obtain ⟨st, hst'⟩ : ∃ st, decSt (rd_T42 l0 (j : Int)).f2 a1_5 = st := ⟨_, rfl⟩
      rw [hst'] at hst
      have HST := Aside0.mk hst'
      clear hW q3 r3 e0 f0 e5 hN5 hB5 z0 z2 z3 hst'
      go_region
      generalize hW : (((((W5.setCell ⟨w.heap.size + 1 + 1, 0, none⟩ _).setCell ⟨w.heap.size + 1 + 1 + 1, 0, none⟩ _).setCell ⟨w.heap.size + 1 + 1 + 1, 1, none⟩ _).setCell ⟨w.heap.size + 1 + 1 + 1, 2, none⟩ _).setCell ⟨w.heap.size + 1 + 1 + 1, 3, none⟩ _).setCell ⟨w.heap.size + 1 + 1 + 1, 4, none⟩ _ = W6
      obtain ⟨z2, z3, zV, zB⟩ := fin6 HZ2.out HZ3.out (Kd.N_V (base' := w.heap.size) HN5.out) (by rintro k (⟨h1, h2⟩ | h) <;> omega) HB5.out (by omega) (by omega) (by omega) _ _ _ _ _ hW
      clear hW hst y0 y2 y3 k0 k1 k2 k3 k4 m0 m1 m2 m3 m4
      go_wp2_with fail
      have y0 := blk_cell (blk_drew z2) 0
      have x0 := blk_cell (blk_drew z3) 0
      have x1 := blk_cell (blk_drew z3) 1
      have x2 := blk_cell (blk_drew z3) 2
      have x3 := blk_cell (blk_drew z3) 3
      have x4 := blk_cell (blk_drew z3) 4
      refine bodyPost_ret (v := .tuple #[.agg #[.slice (some ⟨g, 0, none⟩) l0.length cap], .agg #[.int .i64 0, .string ⟨#[]⟩, .int .u64 0, .bool false, .bool (st == 1)]]) (by simp [results, Try.results18, go_sem, y0, x0, x1, x2, x3, x4]) rfl ?_
      exact ⟨_, by rw [HST.out], Kd.V_drew (Kd.V_mono zV (by rintro k (⟨h1, h2⟩ | h) <;> first | exact .inl h1 | exact .inr (by omega))), below_drew1 zB⟩
end Go.Proofs.Ytdlkpejlkijgcaa.Pr
