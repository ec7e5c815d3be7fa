/- rlog.Join at the document's example, its arguments only read. Conditions: none. -/
import Derived.Test.YtbejichfgednhaaHandOwn
import Derived.Test.YtbejichfgednhaaHandAt
import Derived.Deep.RegionWith
import Derived.Deep.RegionHeld3
import Derived.Deep.RegionLaw
namespace Go.Proofs.Ytbejichfgednhaa.Pr
open Go.RowKit Go.Proofs.YtbejichfgednhaaW.PrintWords Go.Proofs.YtbejichfgednhaaW.PrintLast Go.Proofs.YtbejichfgednhaaW.PrintMore
open Go.Proofs.Ytbejichfgednhaa.Hnd
attribute [local go_sem] setCell_drewN_ alloc_drewN_
set_option linter.unusedVariables false
set_option linter.unusedSimpArgs false
def ex3 : List S36 := [⟨1, ⟨#[]⟩⟩, ⟨1, ⟨#[]⟩⟩, ⟨2, ⟨#[]⟩⟩]
def ex2 : List S36 := [⟨1, ⟨#[]⟩⟩, ⟨3, ⟨#[]⟩⟩]
def exJ : List S36 := [⟨1, ⟨#[]⟩⟩, ⟨1, ⟨#[]⟩⟩, ⟨3, ⟨#[]⟩⟩]
theorem term_at1 : rlog_TermAt.f 0 0 (⟨#[]⟩ : ByteArray) ex3 1 = some (1, true) := by kernel_rfl
theorem term_at2 : rlog_TermAt.f 0 0 (⟨#[]⟩ : ByteArray) ex3 2 = some (1, true) := by kernel_rfl
theorem term_at3 : rlog_TermAt.f 0 0 (⟨#[]⟩ : ByteArray) ex3 3 = some (2, true) := by kernel_rfl
theorem own_at2 : rlog_own.f 0 0 (⟨#[]⟩ : ByteArray) ex3 2 = some [⟨1, ⟨#[]⟩⟩, ⟨1, ⟨#[]⟩⟩] := by kernel_rfl
theorem heap_size_alloc (w : World) (o : Obj) : (w.alloc o).heap.size = w.heap.size + 1 := by simp
theorem blk_put4 {w : World} {g : Nat} {t : TypeId} {a0 a1 a2 a3 : Value} (h : w.heap[g]? = some (.cells #[a0, a1, a2, a3] t (0, 0))) (b0 b1 b2 b3 : Value) :
    ((((w.setCell ⟨g, 0, none⟩ b0).setCell ⟨g, 1, none⟩ b1).setCell ⟨g, 2, none⟩ b2).setCell ⟨g, 3, none⟩ b3).heap[g]? = some (.cells #[b0, b1, b2, b3] t (0, 0)) := by
  have h0 := blk_put (cs' := #[b0, a1, a2, a3]) h 0 b0 rfl
  have h1 := blk_put (cs' := #[b0, b1, a2, a3]) h0 1 b1 rfl
  have h2 := blk_put (cs' := #[b0, b1, b2, a3]) h1 2 b2 rfl
  exact blk_put (cs' := #[b0, b1, b2, b3]) h2 3 b3 rfl
theorem Kd.R_set4 {α : Type} {d : Kd α} {e : Nat} {w : World} {base : Nat} {ok : Nat → Prop} {v : Value} {xs : List α} (h : d.R e w base ok v xs) {g t : Nat} {a0 a1 a2 a3 : Value} (hb : w.heap[g]? = some (.cells #[a0, a1, a2, a3] t (0, 0))) (ht : ∀ q, q ∈ e :: d.E → q ≠ t) (b0 b1 b2 b3 : Value) :
    d.R e ((((w.setCell ⟨g, 0, none⟩ b0).setCell ⟨g, 1, none⟩ b1).setCell ⟨g, 2, none⟩ b2).setCell ⟨g, 3, none⟩ b3) base ok v xs := by
  have h0 := blk_put (cs' := #[b0, a1, a2, a3]) hb 0 b0 rfl
  have h1 := blk_put (cs' := #[b0, b1, a2, a3]) h0 1 b1 rfl
  have h2 := blk_put (cs' := #[b0, b1, b2, a3]) h1 2 b2 rfl
  exact Kd.R_set (Kd.R_set (Kd.R_set (Kd.R_set h hb ht 0 b0) h0 ht 1 b1) h1 ht 2 b2) h2 ht 3 b3
theorem below_store4 {B : Nat} {a w : World} {g : Nat} (h : Below B a w) (hg : B ≤ g) (b0 b1 b2 b3 : Value) :
    Below B a ((((w.setCell ⟨g, 0, none⟩ b0).setCell ⟨g, 1, none⟩ b1).setCell ⟨g, 2, none⟩ b2).setCell ⟨g, 3, none⟩ b3) :=
  (((h.setCell hg b0).setCell hg b1).setCell hg b2).setCell hg b3
set_option maxHeartbeats 1000000 in
set_option maxRecDepth 100000 in
theorem join_no (A : Option Addr) (c : Nat) (w : World) (hr : Kd.C k36 w A 3 ex3) (hc : 3 ≤ c) :
    Calls Try.prog 10 #[.agg #[.int .u64 0, .int .u64 0, .string ⟨#[]⟩, .slice A 3 c], .int .u64 2, .int .u64 2, .slice none 0 0] w fun e w' => e = .returned (.tuple #[.agg #[.int .u64 0, .int .u64 0, .string ⟨#[]⟩, .slice A 3 c], .int .u64 0, .bool false]) ∧ Below w.heap.size w w' := by
  have HR := Aside0.mk hr
  have HC := Aside0.mk hc
  clear hr hc
  go_enter Try.func10, Try.ntmps10
  go_wp2_with fail
  refine (rlog_TermAt.calls 0 0 (⟨#[]⟩ : ByteArray) A c ex3 2 1 true _ (Kd.C_alloc (Kd.C_alloc HR.out _) _) HC.out term_at2).mono ?_
  rintro e w1 ⟨rfl, hb⟩
  have k0 := blk_below (blk_alloc (blk_new w (.cells #[.int .u64 0, .int .u64 0, .string ⟨#[]⟩, .slice A 3 c] 25)) (.cells #[.int .u64 0, .int .u64 0, .string ⟨#[]⟩, .slice none 0 0] 25)) hb
  have k1 := blk_below (blk_new (w.alloc (.cells #[.int .u64 0, .int .u64 0, .string ⟨#[]⟩, .slice A 3 c] 25)) (.cells #[.int .u64 0, .int .u64 0, .string ⟨#[]⟩, .slice none 0 0] 25)) hb
  rw [heap_size_alloc] at k1
  have HB := Aside0.mk (below_call (below_alloc (below_alloc (Below.refl w.heap.size w) _) _) hb)
  have HK1 := Aside0.mk k1
  have c0 := fun o => blk_cell k0 o
  have f0 := fun o => blk_frozen k0 o
  have z0 := blk_lt k0
  have c1 := fun o => blk_cell k1 o
  have f1 := fun o => blk_frozen k1 o
  have z1 := blk_lt k1
  clear hb k0 k1
  go_wp2
  have k2 := blk_put4 HK1.out (.int .u64 0) (.int .u64 0) (.string ⟨#[]⟩) (.slice A 3 c)
  have B2 := below_store4 (g := w.heap.size + 1) HB.out (Nat.le_succ _) (.int .u64 0) (.int .u64 0) (.string ⟨#[]⟩) (.slice A 3 c)
  clear c1 f1 z1 c0 f0 z0
  generalize ((((w1.setCell ⟨w.heap.size + 1, 0, none⟩ (.int .u64 0)).setCell ⟨w.heap.size + 1, 1, none⟩ (.int .u64 0)).setCell ⟨w.heap.size + 1, 2, none⟩ (.string ⟨#[]⟩)).setCell ⟨w.heap.size + 1, 3, none⟩ (.slice A 3 c)) = W2 at k2 B2 ⊢
  have c2 := fun o => blk_cell k2 o
  exact bodyPost_ret (v := .tuple #[.agg #[.int .u64 0, .int .u64 0, .string ⟨#[]⟩, .slice A 3 c], .int .u64 0, .bool false]) (by simp [results, Try.results10, go_sem, c2]) rfl ⟨rfl, B2⟩
set_option maxHeartbeats 1000000 in
set_option maxRecDepth 100000 in
theorem with_plain (b t : Int) (x : ByteArray) (A : Option Addr) (n c : Nat) (A' : Option Addr) (n' c' : Nat) (w : World) :
    Calls Try.prog 32 #[.agg #[.int .u64 b, .int .u64 t, .string x, .slice A n c], .slice A' n' c'] w fun e w' => e = .returned (.agg #[.int .u64 b, .int .u64 t, .string x, .slice A' n' c']) ∧ Below w.heap.size w w' := by
  go_enter Try.func32, Try.ntmps32
  go_wp2
  exact bodyPost_ret (v := .agg #[.int .u64 b, .int .u64 t, .string x, .slice A' n' c']) (by simp [results, Try.results32, go_sem]) rfl ⟨rfl, below_alloc (below_alloc (Below.refl w.heap.size w) _) _⟩
set_option maxHeartbeats 1000000 in
set_option maxRecDepth 100000 in
theorem join_yes (A : Option Addr) (c : Nat) (A3 : Option Addr) (c3 : Nat) (w : World) (hr : Kd.C k36 w A 3 ex3) (hc : 3 ≤ c) (hr3 : Kd.C k36 w A3 2 ex2) (hc3 : 2 ≤ c3) :
    Calls Try.prog 10 #[.agg #[.int .u64 0, .int .u64 0, .string ⟨#[]⟩, .slice A 3 c], .int .u64 1, .int .u64 1, .slice A3 2 c3] w fun e w' => ∃ A' c', e = .returned (.tuple #[.agg #[.int .u64 0, .int .u64 0, .string ⟨#[]⟩, .slice A' 3 c'], .int .u64 3, .bool true]) ∧ Kd.C k36 w' A' 3 exJ ∧ Below w.heap.size w w' := by
  have HR := Aside0.mk hr
  have HC := Aside0.mk hc
  obtain ⟨ad, rfl, e00, e01⟩ := at_T36 hr3 0 (by omega) (by omega)
  obtain ⟨ad', had', e10, e11⟩ := at_T36 hr3 1 (by omega) (by omega)
  obtain rfl := Option.some.inj had'
  have HR3 := Aside0.mk hr3
  clear hr hc hr3 had'
  go_enter Try.func10, Try.ntmps10
  go_wp2_with fail
  refine (rlog_TermAt.calls 0 0 (⟨#[]⟩ : ByteArray) A c ex3 1 1 true _ (Kd.C_alloc (Kd.C_alloc HR.out _) _) HC.out term_at1).mono ?_
  rintro e w1 ⟨rfl, hb⟩
  have k0 := blk_below (blk_alloc (blk_new w (.cells #[.int .u64 0, .int .u64 0, .string ⟨#[]⟩, .slice A 3 c] 25)) (.cells #[.int .u64 0, .int .u64 0, .string ⟨#[]⟩, .slice none 0 0] 25)) hb
  have k1 := blk_below (blk_new (w.alloc (.cells #[.int .u64 0, .int .u64 0, .string ⟨#[]⟩, .slice A 3 c] 25)) (.cells #[.int .u64 0, .int .u64 0, .string ⟨#[]⟩, .slice none 0 0] 25)) hb
  rw [heap_size_alloc] at k1
  have HB := Aside0.mk (below_call (below_alloc (below_alloc (Below.refl w.heap.size w) _) _) hb)
  have HK0 := Aside0.mk k0
  have HK1 := Aside0.mk k1
  have c0 := fun o => blk_cell k0 o
  have f0 := fun o => blk_frozen k0 o
  have z0 := blk_lt k0
  have c1 := fun o => blk_cell k1 o
  have f1 := fun o => blk_frozen k1 o
  have z1 := blk_lt k1
  clear hb k0 k1
  have v00 : (rd_T36 ex2 0).f0 = 1 := by kernel_rfl
  have v01 : (rd_T36 ex2 0).f1 = ⟨#[]⟩ := by kernel_rfl
  have v10 : (rd_T36 ex2 1).f0 = 3 := by kernel_rfl
  have v11 : (rd_T36 ex2 1).f1 = ⟨#[]⟩ := by kernel_rfl
  simp [v00, v01, v10, v11] at e00 e01 e10 e11
  clear v00 v01 v10 v11
  have L0 := World.block_lt_of_cell? w _ e00
  have L1 := World.block_lt_of_cell? w _ e10
  have x00 := (HB.out.cell L0).trans e00
  have x10 := (HB.out.cell L1).trans e10
  have L0' := World.block_lt_of_cell? w _ e01
  have L1' := World.block_lt_of_cell? w _ e11
  have x01 := (HB.out.cell L0').trans e01
  have x11 := (HB.out.cell L1').trans e11
  have y00 : w1.cell? ad = some (.int .u64 1) := x00
  have y01 : w1.cell? ⟨ad.block, ad.off + 1, none⟩ = some (.string ⟨#[]⟩) := x01
  go_wp2_with fail
  refine wp_loop_rounds 2 ?_
  rw [rounds_succ]
  go_wp2_with fail
  refine (rlog_TermAt.calls 0 0 (⟨#[]⟩ : ByteArray) A c ex3 2 1 true _ (Kd.C_alloc (Kd.C_below HR.out HB.out) _) HC.out term_at2).mono ?_
  rintro e w2 ⟨rfl, hb⟩
  have k0 := blk_below (blk_alloc HK0.out (.cells #[.int .u64 1, .string ⟨#[]⟩] 36)) hb
  have k1 := blk_below (blk_alloc HK1.out (.cells #[.int .u64 1, .string ⟨#[]⟩] 36)) hb
  have kx := blk_below (blk_new w1 (.cells #[.int .u64 1, .string ⟨#[]⟩] 36)) hb
  have HB2 := Aside0.mk (below_call (below_alloc HB.out _) hb)
  clear HK0 HK1 c0 f0 z0 c1 f1 z1 x00 x01 x10 x11 y00 y01 HB
  have HK0 := Aside0.mk k0
  have HK1 := Aside0.mk k1
  have c0 := fun o => blk_cell k0 o
  have f0 := fun o => blk_frozen k0 o
  have z0 := blk_lt k0
  have c1 := fun o => blk_cell k1 o
  have f1 := fun o => blk_frozen k1 o
  have z1 := blk_lt k1
  have cx := fun o => blk_cell kx o
  have zx := blk_lt kx
  have y10 : w2.cell? ⟨ad.block, ad.off + 2, none⟩ = some (.int .u64 3) := (HB2.out.cell (p := ad.add 2) L1).trans e10
  have y11 : w2.cell? ⟨ad.block, ad.off + 2 + 1, none⟩ = some (.string ⟨#[]⟩) := (HB2.out.cell (p := ⟨(ad.add 2).block, (ad.add 2).off + 1, none⟩) L1').trans e11
  clear hb k0 k1 kx
  go_wp2_with fail
  rw [rounds_succ]
  go_wp2_with fail
  refine (rlog_TermAt.calls 0 0 (⟨#[]⟩ : ByteArray) A c ex3 3 2 true _ (Kd.C_alloc (Kd.C_below HR.out HB2.out) _) HC.out term_at3).mono ?_
  rintro e w3 ⟨rfl, hb⟩
  have k0 := blk_below (blk_alloc HK0.out (.cells #[.int .u64 3, .string ⟨#[]⟩] 36)) hb
  have k1 := blk_below (blk_alloc HK1.out (.cells #[.int .u64 3, .string ⟨#[]⟩] 36)) hb
  have kx := blk_below (blk_new w2 (.cells #[.int .u64 3, .string ⟨#[]⟩] 36)) hb
  have HB3 := Aside0.mk (below_call (below_alloc HB2.out _) hb)
  clear HK0 HK1 c0 f0 z0 c1 f1 z1 y10 y11 HB2 cx zx
  have HK0 := Aside0.mk k0
  have HK1 := Aside0.mk k1
  have c0 := fun o => blk_cell k0 o
  have f0 := fun o => blk_frozen k0 o
  have z0 := blk_lt k0
  have c1 := fun o => blk_cell k1 o
  have f1 := fun o => blk_frozen k1 o
  have z1 := blk_lt k1
  have cx := fun o => blk_cell kx o
  have zx := blk_lt kx
  clear hb k0 k1 kx
  go_wp2_with fail
  have hne : ¬ c3 = 1 := by omega
  have hd : Kd.C k36 w (some ⟨ad.block, ad.off + 2, none⟩) 1 (ex2.drop 1) := by
    have h := Kd.C_drop (c := c3) (m := 1) HR3.out (by decide) hc3
    rw [if_neg hne] at h
    exact h
  have HD := Aside0.mk hd
  clear hd
  go_region_law (first
    | (refine goes_ Try.func31 (by kernel_rfl) rfl #[.agg #[.int .u64 0, .int .u64 0, .string ⟨#[]⟩, .slice A 3 c], .int .i64 2] (by rfl) rfl rfl (by (try simp only [List.map_toArray, List.map_cons, List.map_nil]); first | done | rfl) ?_; refine (rlog_own.calls 0 0 (⟨#[]⟩ : ByteArray) A c ex3 2 [⟨1, ⟨#[]⟩⟩, ⟨1, ⟨#[]⟩⟩] w3.drew (Kd.C_drew (Kd.C_below HR.out HB3.out)) HC.out own_at2).mono ?_; rintro e w4 ⟨v4, rfl, ho, hb⟩; refine ⟨_, rfl, ?_⟩; have HO := Aside0.mk ho; have HB4 := Aside0.mk hb; clear ho hb)
    | (refine Kd.R_append_rows_step k36 (w0 := w3.drew) w3.drew.heap.size (by rfl) (.tmp 85) (.tmp 88) 23 36 (.agg #[(.int .u64 0), (.string ⟨#[]⟩)]) 24 rfl Try.underlying23 info36 rfl (by decide) (by omega) v4 ([⟨1, ⟨#[]⟩⟩, ⟨1, ⟨#[]⟩⟩] : List S36) (ex2.drop 1) _ _ _ (fun _ => True) (fun _ => False) rfl rfl ?aO ?aR (fun _ _ h => h) (fun _ h => h.elim) (fun _ _ => trivial) ?aB ?aS ?aL ?_; (case aO => exact HO.out); (case aB => exact HB4.out); (case aS => exact HB4.out.size); (case aL => decide); (case aR => exact Kd.C_below (Kd.C_drew (Kd.C_below HD.out HB3.out)) HB4.out); intro v5 w5 ho hb hg hat; obtain ⟨A5, c5, rfl⟩ := Kd.R_slice ho; have HO5 := Aside0.mk ho; have HB5 := Aside0.mk hb; clear ho hb hg hat))
  have k0 := blk_below (blk_drew HK0.out) HB5.out
  have k1 := blk_below (blk_drew HK1.out) HB5.out
  have HB6 := Aside0.mk (below_call HB3.out.drew HB5.out)
  clear HK0 HK1 c0 f0 z0 c1 f1 z1 cx zx
  have HK0 := Aside0.mk k0
  have HK1 := Aside0.mk k1
  have c0 := fun o => blk_cell k0 o
  have f0 := fun o => blk_frozen k0 o
  have z0 := blk_lt k0
  have c1 := fun o => blk_cell k1 o
  have f1 := fun o => blk_frozen k1 o
  have z1 := blk_lt k1
  clear k0 k1
  go_wp2_with fail
  refine (with_plain 0 0 (⟨#[]⟩ : ByteArray) A 3 c A5 _ c5 w5).mono ?_
  rintro e w6 ⟨rfl, hb⟩
  have k0 := blk_below HK0.out hb
  have k1 := blk_below HK1.out hb
  have HB7 := Aside0.mk (below_call HB6.out hb)
  have HO6 := Aside0.mk (Kd.R_below HO5.out hb)
  clear HK0 HK1 c0 f0 z0 c1 f1 z1
  have HK0 := Aside0.mk k0
  have HK1 := Aside0.mk k1
  have c0 := fun o => blk_cell k0 o
  have f0 := fun o => blk_frozen k0 o
  have z0 := blk_lt k0
  have c1 := fun o => blk_cell k1 o
  have f1 := fun o => blk_frozen k1 o
  have z1 := blk_lt k1
  clear k0 k1 hb
  go_wp2
  have ht : ∀ q, q ∈ 36 :: k36.E → q ≠ 25 := by
    show ∀ q, q ∈ [36] → q ≠ 25
    decide
  have k2 := blk_put4 HK1.out (.int .u64 0) (.int .u64 0) (.string ⟨#[]⟩) (.slice A5 (ex2.length - 1 + 1 + 1) c5)
  have B2 := below_store4 (g := w.heap.size + 1) HB7.out (Nat.le_succ _) (.int .u64 0) (.int .u64 0) (.string ⟨#[]⟩) (.slice A5 (ex2.length - 1 + 1 + 1) c5)
  have R2 := Kd.R_set4 HO6.out HK1.out ht (.int .u64 0) (.int .u64 0) (.string ⟨#[]⟩) (.slice A5 (ex2.length - 1 + 1 + 1) c5)
  clear c1 f1 z1 c0 f0 z0
  generalize ((((w6.setCell ⟨w.heap.size + 1, 0, none⟩ (.int .u64 0)).setCell ⟨w.heap.size + 1, 1, none⟩ (.int .u64 0)).setCell ⟨w.heap.size + 1, 2, none⟩ (.string ⟨#[]⟩)).setCell ⟨w.heap.size + 1, 3, none⟩ (.slice A5 (ex2.length - 1 + 1 + 1) c5)) = W2 at k2 B2 R2 ⊢
  have c2 := fun o => blk_cell k2 o
  exact bodyPost_ret (v := .tuple #[.agg #[.int .u64 0, .int .u64 0, .string ⟨#[]⟩, .slice A5 (ex2.length - 1 + 1 + 1) c5], .int .u64 3, .bool true]) (by simp [results, Try.results10, go_sem, c2]) rfl ⟨A5, c5, rfl, (Kd.R_reads' R2).2.2, B2⟩
end Go.Proofs.Ytbejichfgednhaa.Pr
