/- The walk of the head of all statements. Conditions: none. -/
import Derived.Test.YtbadlkhelhomjaaHandOrder
namespace Go.Proofs.Ytbadlkhelhomjaa.Pr
open Go.RowKit Go.Proofs.YtbadlkhelhomjaaW.PrintWords Go.Proofs.YtbadlkhelhomjaaW.PrintLast Go.Proofs.YtbadlkhelhomjaaW.PrintMore
open Go.Proofs.Ytbadlkhelhomjaa.Hnd
attribute [local go_sem] setCell_drewN_ alloc_drewN_
set_option linter.unusedVariables false
set_option linter.unusedSimpArgs false
def exI : List S40 := [⟨1, ⟨#[120]⟩, 1⟩]
def exA : S27 := ⟨⟨0, 0⟩, 0, 0, [], exI⟩
def exB : S27 := ⟨⟨0, 0⟩, 0, 0, exI, []⟩
theorem ex_order : serial_Order.f [exB, exA] = some ([1, 0], 0) := by decide +kernel
theorem ex_ab : serial_Ahead.f 0 0 0 0 [] exI 0 0 0 0 exI [] = some true := by decide +kernel
theorem ex_ba : serial_Ahead.f 0 0 0 0 exI [] 0 0 0 0 [] exI = some false := by decide +kernel
theorem nilC (W : World) : Kd.C k40 W none ([] : List S40).length [] := (Kd.R_reads' (Kd.R_nil k40 40 W W.heap.size (fun _ => True))).2.2
def ferrulelaw21_shown.f : Option Bool := some true
set_option maxHeartbeats 4000000 in
set_option maxRecDepth 100000 in
theorem ferrulelaw21_shown.calls (r : Bool) (w : World) (h : ferrulelaw21_shown.f = some r) :
    Calls Try.prog 9 #[] w fun e w' => e = .returned (.bool r) ∧ Below w.heap.size w w' := by
  obtain rfl := Option.some.inj h
  clear h
  go_enter Try.func9, Try.ntmps9
  go_wp2_with (first
    | ((with_reducible refine gate_dst (N := 7) rfl ?_); refine Kd.R_lit k40 (w0 := w) w.heap.size 40 ?hg (N := 7) ?hd (xs := exI) (inner := [.int .u64 1, .string ⟨#[120]⟩, .int .u64 1]) (ok := fun _ => True) (okp := fun _ => True) ?hr ?hp (fun _ hk => hk) trivial (Below.refl _ _) (Nat.le_refl _) ?hm ?_; (case hm => decide); (case hd => rfl); (case hg => rfl); (case hr => first | (go_simp; done) | (go_simp; rfl)); (case hp => exact (Reps.c3 (show Kd.M k40 _ _ _ (⟨1, ⟨#[120]⟩, 1⟩ : S40) [.int .u64 1, .string ⟨#[120]⟩, .int .u64 1] from (k40_mkM _ _ _ (⟨1, ⟨#[120]⟩, 1⟩ : S40))) (Reps.none _ _))); intro v1 w1 ho hb hg_ hnew_; obtain ⟨A1, c1, rfl⟩ := Kd.R_slice ho; have HO := Aside0.mk ho; have HB := Aside0.mk hb; have HG := Aside0.mk hg_; clear ho hb hg_ hnew_)
    | ((with_reducible refine gate_dst (N := 15) rfl ?_); refine Kd.R_lit k27 (w0 := w) w.heap.size 27 ?hg (N := 15) ?hd (xs := [exB, exA]) (inner := [.int .u64 0, .int .u64 0, .int .u64 0, .int .u64 0, .slice A1 exI.length c1, .slice none 0 0, .int .u64 0, .int .u64 0, .int .u64 0, .int .u64 0, .slice none 0 0, .slice A1 exI.length c1]) (ok := fun _ => True) (okp := fun _ => True) ?hr ?hp (fun _ hk => hk) trivial ?hB ?hb2 ?hm ?_; (case hm => decide); (case hB => exact below_alloc (below_alloc HB.out _) _); (case hb2 => exact (below_alloc (below_alloc HB.out _) _).size); (case hd => rfl); (case hg => rfl); (case hr => first | (go_simp; done) | (go_simp; rfl)); (case hp => exact (Reps.c6 (show Kd.M k27 _ _ _ exB [.int .u64 0, .int .u64 0, .int .u64 0, .int .u64 0, .slice A1 exI.length c1, .slice none 0 0] from (k27_mkM _ _ _ exB (Kd.R_alloc (Kd.R_alloc HO.out _) _) (Kd.R_nil _ _ _ _ _))) (Reps.c6 (show Kd.M k27 _ _ _ exA [.int .u64 0, .int .u64 0, .int .u64 0, .int .u64 0, .slice none 0 0, .slice A1 exI.length c1] from (k27_mkM _ _ _ exA (Kd.R_nil _ _ _ _ _) (Kd.R_alloc (Kd.R_alloc HO.out _) _))) (Reps.none _ _)))); intro v2 w2 ho hb hg_ hnew_; obtain ⟨A2, c2, rfl⟩ := Kd.R_slice ho; have HO2 := Aside0.mk ho; have HB2 := Aside0.mk hb; have HG2 := Aside0.mk hg_; clear ho hb hg_ hnew_))
  refine (serial_Order.calls A2 c2 [exB, exA] [1, 0] 0 _ (Kd.R_reads' HO2.out).2.2 (Kd.R_reads' HO2.out).2.1 ex_order).mono ?_
  rintro e w3 ⟨v3, rfl, ho, hb⟩
  obtain ⟨A3, c3, rfl⟩ := Kd.R_slice ho
  have hx3 := Kd.R_below (Kd.R_grown (Kd.R_alloc (Kd.R_alloc HO.out (.cells #[.int .u64 0, .int .u64 0, .int .u64 0, .int .u64 0, .slice none 0 0, .slice A1 exI.length c1] 27)) (.cells #[.int .u64 0, .int .u64 0, .int .u64 0, .int .u64 0, .slice A1 exI.length c1, .slice none 0 0] 27)) HG2.out (fun k _ => by simp)) hb
  have HX3 := Aside0.mk (Kd.R_reads' hx3)
  have HO3 := Aside0.mk ho
  have KA := Aside0.mk (blk_below (blk_grown (blk_alloc (blk_new w1 (.cells #[.int .u64 0, .int .u64 0, .int .u64 0, .int .u64 0, .slice none 0 0, .slice A1 exI.length c1] 27)) (.cells #[.int .u64 0, .int .u64 0, .int .u64 0, .int .u64 0, .slice A1 exI.length c1, .slice none 0 0] 27)) HG2.out (by simp)) hb)
  have KB := Aside0.mk (blk_below (blk_grown (blk_newAt (W := w1.alloc (.cells #[.int .u64 0, .int .u64 0, .int .u64 0, .int .u64 0, .slice none 0 0, .slice A1 exI.length c1] 27)) (o := (.cells #[.int .u64 0, .int .u64 0, .int .u64 0, .int .u64 0, .slice A1 exI.length c1, .slice none 0 0] 27)) (w1.heap.size + 1) (by simp)) HG2.out (by simp)) hb)
  have HB3 := Aside0.mk (below_call HB2.out hb)
  clear ho hb hx3 HO HG HB HO2 HB2 HG2
  have ca := fun o => blk_cell KA.out o
  have cb := fun o => blk_cell KB.out o
  have za := blk_lt KA.out
  have zb := blk_lt KB.out
  go_wp2_with fail
  refine (serial_Ahead.calls 0 0 0 0 none 0 [] A1 c1 exI 0 0 0 0 A1 c1 exI none 0 [] true w3 (nilC _) (Nat.le_refl _) HX3.out.2.2 HX3.out.2.1 HX3.out.2.2 HX3.out.2.1 (nilC _) (Nat.le_refl _) ex_ab).mono ?_
  rintro e w4 ⟨rfl, hb⟩
  have HB4 := Aside0.mk (below_call HB3.out hb)
  have HX4 := Aside0.mk (Kd.C_below HX3.out.2.2 hb)
  have KA4 := Aside0.mk (blk_below KA.out hb)
  have KB4 := Aside0.mk (blk_below KB.out hb)
  have HO4 := Aside0.mk (Kd.R_below HO3.out hb)
  clear hb ca cb za zb
  have ca := fun o => blk_cell KA4.out o
  have cb := fun o => blk_cell KB4.out o
  have za := blk_lt KA4.out
  have zb := blk_lt KB4.out
  go_wp2_with fail
  refine (serial_Ahead.calls 0 0 0 0 A1 c1 exI none 0 [] 0 0 0 0 none 0 [] A1 c1 exI false w4 HX4.out HX3.out.2.1 (nilC _) (Nat.le_refl _) (nilC _) (Nat.le_refl _) HX4.out HX3.out.2.1 ex_ba).mono ?_
  rintro e w5 ⟨rfl, hb⟩
  have HB5 := Aside0.mk (below_call HB4.out hb)
  obtain ⟨ad5, e5, x5⟩ := Kd.at_int (Kd.R_reads' (Kd.R_below HO4.out hb)).2.2 0 (by decide) (by decide)
  obtain rfl := e5
  have x6 : w5.cell? (ad5.add 0) = some (.int .i64 1) := x5
  have x7 := x6
  simp [Addr.add] at x7
  have L5 := World.block_lt_of_cell? w5 _ x6
  clear hb ca cb za zb x5
  go_wp2
  go_ret
  exact ⟨rfl, HB5.out⟩
end Go.Proofs.Ytbadlkhelhomjaa.Pr
