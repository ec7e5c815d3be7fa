/- The walk of the head of all statements. Conditions: none. -/
import Derived.Test.YtbejichfgednhaaHandOwn
import Derived.Test.YtbejichfgednhaaHandJ
namespace Go.Proofs.Ytbejichfgednhaa.Pr
open Go.RowKit Go.Proofs.YtbejichfgednhaaW.PrintWords Go.Proofs.YtbejichfgednhaaW.PrintLast Go.Proofs.YtbejichfgednhaaW.PrintMore
open Go.Proofs.Ytbejichfgednhaa.Hnd
attribute [local go_sem] setCell_drewN_ alloc_drewN_
set_option linter.unusedVariables false
set_option linter.unusedSimpArgs false
theorem last_at : rlog_Last.f 0 0 (⟨#[]⟩ : ByteArray) ex3 = some (3, 2) := by kernel_rfl
def ferrulelaw05_shown.f : Option Bool := some true
set_option maxHeartbeats 1000000 in
set_option maxRecDepth 100000 in
theorem ferrulelaw05_shown.calls (r : Bool) (w : World) (h : ferrulelaw05_shown.f = some r) :
    Calls Try.prog 9 #[] w fun e w' => e = .returned (.bool r) ∧ Below w.heap.size w w' := by
  obtain rfl := Option.some.inj h
  clear h
  go_enter Try.func9, Try.ntmps9
  go_wp2_with (first
    | ((with_reducible refine gate_dst (N := 13) rfl ?_); refine Kd.R_lit k36 (w0 := w) w.heap.size 36 ?hg (N := 13) ?hd (xs := ([⟨1, ⟨#[]⟩⟩, ⟨1, ⟨#[]⟩⟩, ⟨2, ⟨#[]⟩⟩] : List S36)) (inner := [.int .u64 1, .string ⟨#[]⟩, .int .u64 1, .string ⟨#[]⟩, .int .u64 2, .string ⟨#[]⟩]) (ok := fun _ => True) (okp := fun _ => True) ?hr ?hp (fun _ hk => hk) trivial (Below.refl _ _) (Nat.le_refl _) (by simp) ?_; (case hd => rfl); (case hg => rfl); (case hr => first | (go_simp; done) | (go_simp; rfl)); (case hp => exact (Reps.c2 (show Kd.M k36 _ _ _ (⟨1, ⟨#[]⟩⟩ : S36) [.int .u64 1, .string ⟨#[]⟩] from (k36_mkM _ _ _ (⟨1, ⟨#[]⟩⟩ : S36))) (Reps.c2 (show Kd.M k36 _ _ _ (⟨1, ⟨#[]⟩⟩ : S36) [.int .u64 1, .string ⟨#[]⟩] from (k36_mkM _ _ _ (⟨1, ⟨#[]⟩⟩ : S36))) (Reps.c2 (show Kd.M k36 _ _ _ (⟨2, ⟨#[]⟩⟩ : S36) [.int .u64 2, .string ⟨#[]⟩] from (k36_mkM _ _ _ (⟨2, ⟨#[]⟩⟩ : S36))) (Reps.none _ _))))); intro v1 w1 ho hb hg_ hnew_; obtain ⟨A1, c1, rfl⟩ := Kd.R_slice ho; have HO := Aside0.mk ho; have HB := Aside0.mk hb; have HG := Aside0.mk hg_; clear ho hb hg_ hnew_))
  refine (rlog_Last.calls 0 0 (⟨#[]⟩ : ByteArray) A1 c1 ex3 3 2 _ (Kd.C_alloc (Kd.R_reads' HO.out).2.2 _) (Kd.R_reads' HO.out).2.1 last_at).mono ?_
  rintro e w2 ⟨rfl, hb⟩
  have k1 := blk_below (blk_new w1 (.cells #[.int .u64 0, .int .u64 0, .string ⟨#[]⟩, .slice A1 3 c1] 25)) hb
  have HB2 := Aside0.mk (below_call (below_alloc HB.out _) hb)
  have HO2 := Aside0.mk (Kd.R_below (Kd.R_alloc HO.out (.cells #[.int .u64 0, .int .u64 0, .string ⟨#[]⟩, .slice A1 3 c1] 25)) hb)
  have HK1 := Aside0.mk k1
  have c1_ := fun o => blk_cell k1 o
  have f1_ := fun o => blk_frozen k1 o
  have z1_ := blk_lt k1
  clear k1 hb HB HO
  go_wp2_with (first
    | ((with_reducible refine gate_dst (N := 24) rfl ?_); refine Kd.R_lit k36 (w0 := w) w.heap.size 36 ?hg (N := 24) ?hd (xs := ([⟨1, ⟨#[]⟩⟩, ⟨3, ⟨#[]⟩⟩] : List S36)) (inner := [.int .u64 1, .string ⟨#[]⟩, .int .u64 3, .string ⟨#[]⟩]) (ok := fun _ => True) (okp := fun _ => True) ?hr ?hp (fun _ hk => hk) trivial HB2.out HB2.out.size (by simp) ?_; (case hd => rfl); (case hg => rfl); (case hr => first | (go_simp; done) | (go_simp; rfl)); (case hp => exact (Reps.c2 (show Kd.M k36 _ _ _ (⟨1, ⟨#[]⟩⟩ : S36) [.int .u64 1, .string ⟨#[]⟩] from (k36_mkM _ _ _ (⟨1, ⟨#[]⟩⟩ : S36))) (Reps.c2 (show Kd.M k36 _ _ _ (⟨3, ⟨#[]⟩⟩ : S36) [.int .u64 3, .string ⟨#[]⟩] from (k36_mkM _ _ _ (⟨3, ⟨#[]⟩⟩ : S36))) (Reps.none _ _)))); intro v3 w3 ho hb hg_ hnew_; obtain ⟨A3, c3, rfl⟩ := Kd.R_slice ho; have HO3 := Aside0.mk ho; have HB3 := Aside0.mk hb; have HG3 := Aside0.mk hg_; clear ho hb hg_ hnew_))
  have HC1 := Aside0.mk (Kd.R_reads' (Kd.R_grown HO2.out HG3.out (fun k _ => by simp)))
  refine (join_yes A1 c1 A3 c3 w3 HC1.out.2.2 HC1.out.2.1 (Kd.R_reads' HO3.out).2.2 (Kd.R_reads' HO3.out).2.1).mono ?_
  rintro e w4 ⟨A4, c4, rfl, hc4, hb⟩
  have k1 := blk_below (blk_grown HK1.out HG3.out (by simp)) hb
  have HB4 := Aside0.mk (below_call HB3.out hb)
  have HC2 := Aside0.mk (Kd.C_below HC1.out.2.2 hb)
  have HC4 := Aside0.mk hc4
  clear HK1 c1_ f1_ z1_ HO2 HO3 HB3 HG3 HB2
  have HK1 := Aside0.mk k1
  have c1_ := fun o => blk_cell k1 o
  have f1_ := fun o => blk_frozen k1 o
  have z1_ := blk_lt k1
  clear k1 hb hc4
  go_wp2_with fail
  have hc1 := HC1.out.2.1
  refine (join_no A1 c1 _ (Kd.C_alloc HC2.out _) HC1.out.2.1).mono ?_
  rintro e w5 ⟨rfl, hb⟩
  have k1 := blk_below (blk_alloc HK1.out (.cells #[.int .u64 0, .int .u64 0, .string ⟨#[]⟩, .slice A4 3 c4] 25)) hb
  have km := blk_below (blk_new w4 (.cells #[.int .u64 0, .int .u64 0, .string ⟨#[]⟩, .slice A4 3 c4] 25)) hb
  have HB5 := Aside0.mk (below_call (below_alloc HB4.out _) hb)
  have hc5 := Kd.C_below (Kd.C_alloc HC4.out (.cells #[.int .u64 0, .int .u64 0, .string ⟨#[]⟩, .slice A4 3 c4] 25)) hb
  obtain ⟨ad, rfl, e20, e21⟩ := at_T36 hc5 2 (by omega) (by omega)
  have v20 : (rd_T36 exJ 2).f0 = 3 := by kernel_rfl
  rw [v20] at e20
  clear v20 e21 hc5
  have y20 : w5.cell? ⟨ad.block, ad.off + 4, none⟩ = some (.int .u64 3) := e20
  have L19 := World.block_lt_of_cell? w5 _ e20
  have L20 : ad.block < w5.heap.size := L19
  clear HK1 c1_ f1_ z1_ HB4 HC2
  have c1_ := fun o => blk_cell k1 o
  have f1_ := fun o => blk_frozen k1 o
  have z1_ := blk_lt k1
  have cm_ := fun o => blk_cell km o
  have fm_ := fun o => blk_frozen km o
  have zm_ := blk_lt km
  clear hb k1 km
  go_wp2
  go_ret
  exact ⟨rfl, below_alloc HB5.out _⟩
end Go.Proofs.Ytbejichfgednhaa.Pr
