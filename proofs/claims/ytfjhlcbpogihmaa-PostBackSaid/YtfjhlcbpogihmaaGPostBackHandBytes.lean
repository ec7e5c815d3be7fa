/- post.Bytes: what it computes, and that it does. Conditions: none. -/
import Derived.Test.YtfjhlcbpogihmaaGPostBackHandMayW
import Derived.Test.YtfjhlcbpogihmaaKPostBack1
import Derived.LoopN
namespace Go.Proofs.Ytfjhlcbpogihmaa.Pr
open Go.RowKit Go.Proofs.YtfjhlcbpogihmaaW.PrintWords Go.Proofs.YtfjhlcbpogihmaaW.PrintLast Go.Proofs.YtfjhlcbpogihmaaW.PrintMore
open Go.Proofs.Ytfjhlcbpogihmaa.Hnd
set_option linter.unusedVariables false
set_option linter.unusedSimpArgs false
/-- The entries' bytes, behind those that are there. -/
def entsF : List S75 → List UInt8 → Option (List UInt8)
  | [], acc => some acc
  | e :: r, acc => (pack_Num.f e.f0).bind fun n => (pack_Text.f e.f1).bind fun t => if n.1.size + t.1.size ≤ 4611686018427387904 ∧ acc.length + (n.1 ++ t.1).size ≤ 140737488355328 then entsF r (acc ++ (n.1 ++ t.1).data.toList) else none
def addF (acc : List UInt8) (b : Option (ByteArray × Int)) : Option (List UInt8) := b.bind fun b => if acc.length + b.1.size ≤ 140737488355328 then some (acc ++ b.1.data.toList) else none
def post_Bytes.f (a0_0 a0_1 a0_2 a0_3 a0_4 a0_5 a0_6 : Int) (a0_7 : Bool) (l0_8 : List S75) (a0_9 : ByteArray) : Option (ByteArray × Int) :=
  (post_May.f a0_0 a0_1 a0_2 a0_3 a0_4 a0_5 a0_6 a0_7 l0_8 a0_9).bind fun m => if m = true then
    (addF [] (pack_Nums.f [IntKind.u64.wrap a0_0, a0_1, a0_2, a0_3, a0_4, a0_5, a0_6])).bind fun c0 => (addF c0 (pack_Num.f (if a0_7 = true then 1 else 0))).bind fun c1 => (addF c1 (pack_Num.f (IntKind.u64.wrap (l0_8.length : Int)))).bind fun c2 =>
    (entsF l0_8 c2).bind fun c3 => (addF c3 (pack_Text.f a0_9)).bind fun c4 => seal_Put.f ⟨c4.toArray⟩ else some ((⟨#[]⟩ : ByteArray), 1)
theorem addF_some {acc c : List UInt8} {o : Option (ByteArray × Int)} (h : addF acc o = some c) : ∃ s er, o = some (s, er) ∧ acc.length + s.size ≤ 140737488355328 ∧ c = acc ++ s.data.toList := by
  unfold addF at h
  obtain ⟨⟨s, er⟩, h1, h2⟩ := Option.bind_eq_some_iff.mp h
  dsimp only at h2
  by_cases hs : acc.length + s.size ≤ 140737488355328
  · rw [if_pos hs] at h2
    exact ⟨s, er, h1, hs, (Option.some.inj h2).symm⟩
  · rw [if_neg hs] at h2; cases h2
theorem litU7 (W : World) (x0 x1 x2 x3 x4 x5 x6 : Int) : Kd.C (Kd.int .u64) (W.alloc (.cells #[.int .u64 x0, .int .u64 x1, .int .u64 x2, .int .u64 x3, .int .u64 x4, .int .u64 x5, .int .u64 x6] 25)) (some ⟨W.heap.size, 0, none⟩) ([x0, x1, x2, x3, x4, x5, x6] : List Int).length [x0, x1, x2, x3, x4, x5, x6] := by
  have b := blk_new W (.cells #[.int .u64 x0, .int .u64 x1, .int .u64 x2, .int .u64 x3, .int .u64 x4, .int .u64 x5, .int .u64 x6] 25)
  refine ⟨rfl, by simp, fun _ => ⟨_, rfl, fun j p hj => ?_⟩⟩
  have hcell : ∀ i, (W.alloc (.cells #[.int .u64 x0, .int .u64 x1, .int .u64 x2, .int .u64 x3, .int .u64 x4, .int .u64 x5, .int .u64 x6] 25)).cell? ⟨W.heap.size, i, none⟩ = (#[Value.int .u64 x0, .int .u64 x1, .int .u64 x2, .int .u64 x3, .int .u64 x4, .int .u64 x5, .int .u64 x6] : Array Value)[i]? := fun i => blk_cell b i
  match j, hj with
  | 0, hj => obtain rfl := Option.some.inj hj; exact ⟨[.int .u64 x0], rfl, rfl, fun i u hu => by match i, hu with | 0, hu => obtain rfl := Option.some.inj hu; exact hcell 0⟩
  | 1, hj => obtain rfl := Option.some.inj hj; exact ⟨[.int .u64 x1], rfl, rfl, fun i u hu => by match i, hu with | 0, hu => obtain rfl := Option.some.inj hu; exact hcell 1⟩
  | 2, hj => obtain rfl := Option.some.inj hj; exact ⟨[.int .u64 x2], rfl, rfl, fun i u hu => by match i, hu with | 0, hu => obtain rfl := Option.some.inj hu; exact hcell 2⟩
  | 3, hj => obtain rfl := Option.some.inj hj; exact ⟨[.int .u64 x3], rfl, rfl, fun i u hu => by match i, hu with | 0, hu => obtain rfl := Option.some.inj hu; exact hcell 3⟩
  | 4, hj => obtain rfl := Option.some.inj hj; exact ⟨[.int .u64 x4], rfl, rfl, fun i u hu => by match i, hu with | 0, hu => obtain rfl := Option.some.inj hu; exact hcell 4⟩
  | 5, hj => obtain rfl := Option.some.inj hj; exact ⟨[.int .u64 x5], rfl, rfl, fun i u hu => by match i, hu with | 0, hu => obtain rfl := Option.some.inj hu; exact hcell 5⟩
  | 6, hj => obtain rfl := Option.some.inj hj; exact ⟨[.int .u64 x6], rfl, rfl, fun i u hu => by match i, hu with | 0, hu => obtain rfl := Option.some.inj hu; exact hcell 6⟩
theorem blk_T {w w' : World} {g : Nat} {cs : Array Value} {t : TypeId} (h : w.heap[g]? = some (.cells cs t (0, 0))) (hk : ∀ (k : Nat) (cs : Array Value) (t : TypeId) (fz : Nat × Nat), w.heap[k]? = some (Obj.cells cs t fz) → t ≠ 94 → t ≠ 5 → w'.heap[k]? = some (Obj.cells cs t fz)) (h1 : t ≠ 94) (h2 : t ≠ 5) : w'.heap[g]? = some (.cells cs t (0, 0)) := hk g cs t _ h h1 h2
set_option maxHeartbeats 4000000 in
set_option maxRecDepth 100000 in
theorem post_Bytes.calls (a0_0 a0_1 a0_2 a0_3 a0_4 a0_5 a0_6 : Int) (a0_7 : Bool) (A0_8 : Option Addr) (c0_8 : Nat) (l0_8 : List S75) (a0_9 : ByteArray) (r1 : ByteArray) (r2 : Int) (w : World) (hr0_8 : Kd.C k75 w A0_8 l0_8.length l0_8) (hc0_8 : l0_8.length ≤ c0_8) (h : post_Bytes.f a0_0 a0_1 a0_2 a0_3 a0_4 a0_5 a0_6 a0_7 l0_8 a0_9 = some (r1, r2)) :
    Calls Try.prog 31 #[.agg #[.int .i64 a0_0, .int .u64 a0_1, .int .u64 a0_2, .int .u64 a0_3, .int .u64 a0_4, .int .u64 a0_5, .int .u64 a0_6, .bool a0_7, .slice A0_8 l0_8.length c0_8, .string a0_9]] w fun e w' => e = .returned (.tuple #[.string r1, .int .i64 r2]) ∧ Below w.heap.size w w' := by
  unfold post_Bytes.f at h
  obtain ⟨m, hM, h⟩ := Option.bind_eq_some_iff.mp h
  have HM := Aside0.mk hM
  have HR := Aside0.mk hr0_8
  have HC := Aside0.mk hc0_8
  have HL : l0_8.length ≤ maxLen := hr0_8.2.1
  have hb1 := blk_new w (.cells #[.int .i64 a0_0, .int .u64 a0_1, .int .u64 a0_2, .int .u64 a0_3, .int .u64 a0_4, .int .u64 a0_5, .int .u64 a0_6, .bool a0_7, .slice A0_8 l0_8.length c0_8, .string a0_9] 57)
  have hB0 : Below w.heap.size w (w.alloc (.cells #[.int .i64 a0_0, .int .u64 a0_1, .int .u64 a0_2, .int .u64 a0_3, .int .u64 a0_4, .int .u64 a0_5, .int .u64 a0_6, .bool a0_7, .slice A0_8 l0_8.length c0_8, .string a0_9] 57)) := below_alloc (Below.refl _ _) _
  have B1 := Aside0.mk hb1
  have HB := Aside0.mk hB0
  clear hM hr0_8 hc0_8 hb1 hB0
  cases m with
  | false =>
    rw [if_neg (by decide)] at h
    simp only [Option.some.injEq, Prod.mk.injEq] at h
    obtain ⟨rfl, rfl⟩ := h
    go_enter Try.func31, Try.ntmps31
    go_wp2_with fail
    refine (post_May.calls a0_0 a0_1 a0_2 a0_3 a0_4 a0_5 a0_6 a0_7 A0_8 c0_8 l0_8 a0_9 false _ (Kd.C_below HR.out HB.out) HC.out HM.out).mono ?_
    rintro e w1 ⟨rfl, hb⟩
    have HB1 := Aside0.mk (below_call HB.out hb)
    clear hb
    go_wp2_with fail
    go_ret2
    exact ⟨rfl, HB1.out⟩
  | true =>
    rw [if_pos rfl] at h
    obtain ⟨d0, h0, h⟩ := Option.bind_eq_some_iff.mp h
    obtain ⟨d1, h1, h⟩ := Option.bind_eq_some_iff.mp h
    obtain ⟨d2, h2, h⟩ := Option.bind_eq_some_iff.mp h
    obtain ⟨d3, h3, h⟩ := Option.bind_eq_some_iff.mp h
    obtain ⟨d4, h4, h⟩ := Option.bind_eq_some_iff.mp h
    obtain ⟨s0, er0, N0, z0, rfl⟩ := addF_some h0
    obtain ⟨s1, er1, N1, z1, rfl⟩ := addF_some h1
    obtain ⟨s2, er2, N2, z2, rfl⟩ := addF_some h2
    obtain ⟨s4, er4, N4, z4, rfl⟩ := addF_some h4
    have K0 := Aside0.mk N0
    have K1 := Aside0.mk N1
    have K2 := Aside0.mk N2
    have K3 := Aside0.mk h3
    have K4 := Aside0.mk N4
    have Z0 := Aside0.mk z0
    have Z1 := Aside0.mk z1
    have Z2 := Aside0.mk z2
    have Z4 := Aside0.mk z4
    have HP := Aside0.mk h
    clear h h0 h1 h2 h3 h4 N0 N1 N2 N4 z0 z1 z2 z4
    go_enter Try.func31, Try.ntmps31
    go_wp2_with fail
    refine (post_May.calls a0_0 a0_1 a0_2 a0_3 a0_4 a0_5 a0_6 a0_7 A0_8 c0_8 l0_8 a0_9 true _ (Kd.C_below HR.out HB.out) HC.out HM.out).mono ?_
    rintro e w1 ⟨rfl, hb⟩
    have HB1 := Aside0.mk (below_call HB.out hb)
    have B2 := Aside0.mk (blk_below B1.out hb)
    have p0 := blk_cell B2.out 0
    have p1 := blk_cell B2.out 1
    have p2 := blk_cell B2.out 2
    have p3 := blk_cell B2.out 3
    have p4 := blk_cell B2.out 4
    have p5 := blk_cell B2.out 5
    have p6 := blk_cell B2.out 6
    have p7 := blk_cell B2.out 7
    have p8 := blk_cell B2.out 8
    have p9 := blk_cell B2.out 9
    have zl := blk_lt B2.out
    have b3 := blk_alloc B2.out (.cells #[.pointer none, .slice none 0 0] 94)
    have hbl := below_alloc HB1.out (.cells #[.pointer none, .slice none 0 0] 94)
    have hbn := blk_new w1 (.cells #[.pointer none, .slice none 0 0] 94)
    have HLE := HB1.out.size
    have hD := (show Lib.IsBuilder 94 5 w.heap.size w1.heap.size (Lib.byteCells []) (w1.alloc (.cells #[.pointer none, .slice none 0 0] 94)) from .inl ⟨HLE, _, hbn, World.ownsRow_nil _ _ _ _, by simp [Value.ownBlock]⟩)
    have D3 := Aside0.mk hD
    have B3 := Aside0.mk b3
    have HB3 := Aside0.mk hbl
    clear hb b3 hbl hbn hD
    go_wp2_with fail
    clear p0 p1 p2 p3 p4 p5 p6 p7 p8 p9
    clear zl
    refine (post_headOf.calls a0_0 a0_1 a0_2 a0_3 a0_4 a0_5 a0_6 a0_7 A0_8 c0_8 l0_8 a0_9 _ _ _ _ _ _ _ _ _ _ (Kd.C_below HR.out HB3.out) HC.out rfl).mono ?_
    rintro e w4 ⟨rfl, hb⟩
    have HB4 := Aside0.mk (below_call HB3.out hb)
    have B4 := Aside0.mk (blk_below B3.out hb)
    have D4 := Aside0.mk (bld_below D3.out hb)
    clear hb HB3 B3 D3
    have p0 := blk_cell B4.out 0
    have p1 := blk_cell B4.out 1
    have p2 := blk_cell B4.out 2
    have p3 := blk_cell B4.out 3
    have p4 := blk_cell B4.out 4
    have p5 := blk_cell B4.out 5
    have p6 := blk_cell B4.out 6
    have p7 := blk_cell B4.out 7
    have p8 := blk_cell B4.out 8
    have p9 := blk_cell B4.out 9
    go_wp2_with fail
    clear p0 p1 p2 p3 p4 p5 p6 p7 p8 p9
    have hc := litU7 (w4.alloc (.cells #[.int .u64 (IntKind.u64.wrap a0_0), .int .u64 a0_1, .int .u64 a0_2, .int .u64 a0_3, .int .u64 a0_4, .int .u64 a0_5, .int .u64 a0_6, .bool a0_7, .string a0_9] 101)) (IntKind.u64.wrap a0_0) a0_1 a0_2 a0_3 a0_4 a0_5 a0_6
    simp only [World.size_alloc] at hc
    have hbl := below_alloc (below_alloc HB4.out (.cells #[.int .u64 (IntKind.u64.wrap a0_0), .int .u64 a0_1, .int .u64 a0_2, .int .u64 a0_3, .int .u64 a0_4, .int .u64 a0_5, .int .u64 a0_6, .bool a0_7, .string a0_9] 101)) (.cells #[.int .u64 (IntKind.u64.wrap a0_0), .int .u64 a0_1, .int .u64 a0_2, .int .u64 a0_3, .int .u64 a0_4, .int .u64 a0_5, .int .u64 a0_6] 25)
    have b_ := blk_alloc (blk_alloc B4.out (.cells #[.int .u64 (IntKind.u64.wrap a0_0), .int .u64 a0_1, .int .u64 a0_2, .int .u64 a0_3, .int .u64 a0_4, .int .u64 a0_5, .int .u64 a0_6, .bool a0_7, .string a0_9] 101)) (.cells #[.int .u64 (IntKind.u64.wrap a0_0), .int .u64 a0_1, .int .u64 a0_2, .int .u64 a0_3, .int .u64 a0_4, .int .u64 a0_5, .int .u64 a0_6] 25)
    have d_ := bld_below D4.out (below_alloc (below_alloc (Below.refl w4.heap.size w4) (.cells #[.int .u64 (IntKind.u64.wrap a0_0), .int .u64 a0_1, .int .u64 a0_2, .int .u64 a0_3, .int .u64 a0_4, .int .u64 a0_5, .int .u64 a0_6, .bool a0_7, .string a0_9] 101)) (.cells #[.int .u64 (IntKind.u64.wrap a0_0), .int .u64 a0_1, .int .u64 a0_2, .int .u64 a0_3, .int .u64 a0_4, .int .u64 a0_5, .int .u64 a0_6] 25))
    obtain ⟨q4, hq4⟩ : ∃ q, w4.heap.size = q := ⟨_, rfl⟩
    rw [hq4] at hc ⊢
    generalize (w4.alloc (.cells #[.int .u64 (IntKind.u64.wrap a0_0), .int .u64 a0_1, .int .u64 a0_2, .int .u64 a0_3, .int .u64 a0_4, .int .u64 a0_5, .int .u64 a0_6, .bool a0_7, .string a0_9] 101)).alloc (.cells #[.int .u64 (IntKind.u64.wrap a0_0), .int .u64 a0_1, .int .u64 a0_2, .int .u64 a0_3, .int .u64 a0_4, .int .u64 a0_5, .int .u64 a0_6] 25) = w5 at hc hbl b_ d_ ⊢
    have HB5 := Aside0.mk hbl
    have B5 := Aside0.mk b_
    have D5 := Aside0.mk d_
    have HC5 := Aside0.mk hc
    clear hbl b_ d_ hq4 HB4 B4 D4 hc
    refine (pack_Nums.calls _ 7 [IntKind.u64.wrap a0_0, a0_1, a0_2, a0_3, a0_4, a0_5, a0_6] s0 er0 _ HC5.out (Nat.le_refl _) K0.out).mono ?_
    rintro e w6 ⟨rfl, hb⟩
    have HB6 := Aside0.mk (below_call HB5.out hb)
    have B6 := Aside0.mk (blk_below B5.out hb)
    have D6 := Aside0.mk (bld_below D5.out hb)
    clear hb HB5 B5 D5
    clear HC5
    go_wp2_with fail
    refine (bws w.heap.size w1.heap.size (Lib.byteCells (([] : List UInt8))) s0 _ D6.out (by rw [Lib.byteCells_length]; exact Z0.out) HB6.out.size).mono ?_
    rintro e w7 ⟨rfl, hd, hb, hk⟩
    have HB7 := Aside0.mk (below_trans' HB6.out hb)
    have B7 := Aside0.mk (blk_T B6.out hk (by decide) (by decide))
    have D7 := Aside0.mk (show Lib.IsBuilder 94 5 w.heap.size w1.heap.size (Lib.byteCells ((([] : List UInt8)) ++ s0.data.toList)) w7 from .inr (by rw [← strCells_of]; exact hd))
    clear hd hb hk HB6 B6 D6
    cases a0_7 with
    | true =>
      have p0 := blk_cell B7.out 0
      have p1 := blk_cell B7.out 1
      have p2 := blk_cell B7.out 2
      have p3 := blk_cell B7.out 3
      have p4 := blk_cell B7.out 4
      have p5 := blk_cell B7.out 5
      have p6 := blk_cell B7.out 6
      have p7 := blk_cell B7.out 7
      have p8 := blk_cell B7.out 8
      have p9 := blk_cell B7.out 9
      go_wp2_with fail
      clear p0 p1 p2 p3 p4 p5 p6 p7 p8 p9
      have hbl := below_alloc HB7.out (.cells #[.int .u64 1, .int .u64 (IntKind.u64.wrap (l0_8.length : Int))] 25)
      have b_ := blk_alloc B7.out (.cells #[.int .u64 1, .int .u64 (IntKind.u64.wrap (l0_8.length : Int))] 25)
      have d_ := bld_below D7.out (below_alloc (Below.refl w7.heap.size w7) (.cells #[.int .u64 1, .int .u64 (IntKind.u64.wrap (l0_8.length : Int))] 25))
      have v_ := blk_new w7 (.cells #[.int .u64 1, .int .u64 (IntKind.u64.wrap (l0_8.length : Int))] 25)
      obtain ⟨q7, hq7⟩ : ∃ q, w7.heap.size = q := ⟨_, rfl⟩
      rw [hq7] at v_ ⊢
      generalize w7.alloc (.cells #[.int .u64 1, .int .u64 (IntKind.u64.wrap (l0_8.length : Int))] 25) = w8 at hbl b_ d_ v_ ⊢
      have HB8 := Aside0.mk hbl
      have B8 := Aside0.mk b_
      have D8 := Aside0.mk d_
      have V8 := Aside0.mk v_
      clear hbl b_ d_ v_ hq7 HB7 B7 D7
      refine wp_loop_rounds 3 ?_
      rw [rounds_succ]
      have v0 := blk_cell V8.out 0
      go_wp2_with fail
      clear v0
      refine (pack_Num.calls 1 s1 er1 _ K1.out).mono ?_
      rintro e w9 ⟨rfl, hb⟩
      have HB9 := Aside0.mk (below_call HB8.out hb)
      have B9 := Aside0.mk (blk_below B8.out hb)
      have D9 := Aside0.mk (bld_below D8.out hb)
      have V9 := Aside0.mk (blk_below V8.out hb)
      clear hb HB8 B8 D8 V8
      go_wp2_with fail
      refine (bws w.heap.size w1.heap.size (Lib.byteCells (([] : List UInt8) ++ s0.data.toList)) s1 _ D9.out (by rw [Lib.byteCells_length]; exact Z1.out) HB9.out.size).mono ?_
      rintro e w10 ⟨rfl, hd, hb, hk⟩
      have HB10 := Aside0.mk (below_trans' HB9.out hb)
      have B10 := Aside0.mk (blk_T B9.out hk (by decide) (by decide))
      have D10 := Aside0.mk (show Lib.IsBuilder 94 5 w.heap.size w1.heap.size (Lib.byteCells ((([] : List UInt8) ++ s0.data.toList) ++ s1.data.toList)) w10 from .inr (by rw [← strCells_of]; exact hd))
      have V10 := Aside0.mk (blk_T V9.out hk (by decide) (by decide))
      clear hd hb hk HB9 B9 D9 V9
      go_wp2_with fail
      rw [rounds_succ]
      have v1 := blk_cell V10.out 1
      go_wp2_with fail
      clear v1
      refine (pack_Num.calls (IntKind.u64.wrap (l0_8.length : Int)) s2 er2 _ K2.out).mono ?_
      rintro e w11 ⟨rfl, hb⟩
      have HB11 := Aside0.mk (below_call HB10.out hb)
      have B11 := Aside0.mk (blk_below B10.out hb)
      have D11 := Aside0.mk (bld_below D10.out hb)
      clear hb HB10 B10 D10
      go_wp2_with fail
      refine (bws w.heap.size w1.heap.size (Lib.byteCells ((([] : List UInt8) ++ s0.data.toList) ++ s1.data.toList)) s2 _ D11.out (by rw [Lib.byteCells_length]; exact Z2.out) HB11.out.size).mono ?_
      rintro e w12 ⟨rfl, hd, hb, hk⟩
      have HB12 := Aside0.mk (below_trans' HB11.out hb)
      have B12 := Aside0.mk (blk_T B11.out hk (by decide) (by decide))
      have D12 := Aside0.mk (show Lib.IsBuilder 94 5 w.heap.size w1.heap.size (Lib.byteCells (((([] : List UInt8) ++ s0.data.toList) ++ s1.data.toList) ++ s2.data.toList)) w12 from .inr (by rw [← strCells_of]; exact hd))
      clear hd hb hk HB11 B11 D11
      go_wp2_with fail
      rw [rounds_succ]
      have p0 := blk_cell B12.out 0
      have p1 := blk_cell B12.out 1
      have p2 := blk_cell B12.out 2
      have p3 := blk_cell B12.out 3
      have p4 := blk_cell B12.out 4
      have p5 := blk_cell B12.out 5
      have p6 := blk_cell B12.out 6
      have p7 := blk_cell B12.out 7
      have p8 := blk_cell B12.out 8
      have p9 := blk_cell B12.out 9
      go_wp2_with fail
      clear p0 p1 p2 p3 p4 p5 p6 p7 p8 p9
      have K3a := Aside0.mk (show entsF l0_8 (((([] : List UInt8) ++ s0.data.toList) ++ s1.data.toList) ++ s2.data.toList) = some d3 from K3.out)
      generalize hacc : (((([] : List UInt8) ++ s0.data.toList) ++ s1.data.toList) ++ s2.data.toList) = acc0 at K3a D12
      clear hacc
      go_loopg [71] l0_8.length (fun g v71 wr => ∃ (i : Nat) (acc : List UInt8), v71 = .int .i64 (i : Int) ∧ Aside0 (i ≤ l0_8.length ∧ l0_8.length - i ≤ g) ∧ Aside0 (entsF (l0_8.drop i) acc = some d3) ∧ Aside0 (Lib.IsBuilder 94 5 w.heap.size w1.heap.size (Lib.byteCells acc) wr) ∧ Aside0 (wr.heap[w.heap.size]? = some (.cells #[.int .i64 a0_0, .int .u64 a0_1, .int .u64 a0_2, .int .u64 a0_3, .int .u64 a0_4, .int .u64 a0_5, .int .u64 a0_6, .bool true, .slice A0_8 l0_8.length c0_8, .string a0_9] 57 (0, 0))) ∧ Aside0 (Below w.heap.size w wr))
      case atStart => exact ⟨0, acc0, rfl, ⟨by omega⟩, K3a, D12, B12, HB12⟩
      case round =>
        clear K3a D12 B12 HB12
        obtain ⟨i, acc, rfl, HI, HT, DD, BB, HH⟩ := hrel
        by_cases hlt : (i : Int) < (l0_8.length : Int)
        · have hltb := decide_eq_true hlt
          obtain ⟨ad, hA, e0, e1⟩ := at_T75 (Kd.C_below HR.out HH.out) (i : Int) (by omega) hlt
          subst hA
          simp only [Int.toNat_natCast] at e0 e1
          have hT := HT.out
          rw [List.drop_eq_getElem_cons (show i < l0_8.length by omega)] at hT
          have hx : rd_T75 l0_8 (i : Int) = l0_8[i] := by simp [rd_T75, List.getD_eq_getElem?_getD, show i < l0_8.length by omega]
          rw [← hx] at hT
          generalize rd_T75 l0_8 (i : Int) = x at e0 e1 hT
          clear hx HT
          unfold entsF at hT
          obtain ⟨⟨nn, en⟩, hN, hT⟩ := Option.bind_eq_some_iff.mp hT
          dsimp only at hT
          obtain ⟨⟨tt, et⟩, hX, hT⟩ := Option.bind_eq_some_iff.mp hT
          dsimp only at hT
          by_cases hsz : nn.size + tt.size ≤ 4611686018427387904 ∧ acc.length + (nn ++ tt).size ≤ 140737488355328
          rotate_left
          · rw [if_neg hsz] at hT; cases hT
          rw [if_pos hsz] at hT
          obtain ⟨hs1, hs2⟩ := hsz
          have HT := Aside0.mk hT
          have HN := Aside0.mk hN
          have HX := Aside0.mk hX
          have HS2 := Aside0.mk hs2
          obtain ⟨x0, x1⟩ := x
          dsimp only at e0 e1
          dsimp only at hN hX
          have HN := Aside0.mk hN
          have HX := Aside0.mk hX
          clear hT hN hX hs2
          have p0 := eq_true (show (0 : Int) ≤ (i : Int) by omega)
          have p1 := eq_true hlt
          go_wp2_with fail
          have nb := blk_alloc BB.out (.cells #[.int .u64 x0, .string x1] 75)
          have nd := bld_below DD.out (below_alloc (Below.refl wr.heap.size wr) (.cells #[.int .u64 x0, .string x1] 75))
          have nh := below_alloc HH.out (.cells #[.int .u64 x0, .string x1] 75)
          have ne := blk_new wr (.cells #[.int .u64 x0, .string x1] 75)
          refine (pack_Num.calls x0 nn en _ HN.out).mono ?_
          rintro e wa ⟨rfl, hb⟩
          have HA := Aside0.mk (below_call nh hb)
          have BA := Aside0.mk (blk_below nb hb)
          have DA := Aside0.mk (bld_below nd hb)
          have EA := Aside0.mk (blk_below ne hb)
          clear hb nb nd nh ne e0 e1 DD BB HH
          have c1 := blk_cell EA.out 1
          go_wp2_with fail
          refine (pack_Text.calls x1 tt et _ HX.out).mono ?_
          rintro e wb ⟨rfl, hb⟩
          have HB_ := Aside0.mk (below_call HA.out hb)
          have BB_ := Aside0.mk (blk_below BA.out hb)
          have DB_ := Aside0.mk (bld_below DA.out hb)
          clear hb c1 HA BA DA EA
          go_wp2_with fail
          refine (bws w.heap.size w1.heap.size (Lib.byteCells acc) (nn ++ tt) _ DB_.out (by rw [Lib.byteCells_length]; exact HS2.out) HB_.out.size).mono ?_
          rintro e wc ⟨rfl, hd, hb, hk⟩
          have HC_ := Aside0.mk (below_trans' HB_.out hb)
          have BC_ := Aside0.mk (blk_T BB_.out hk (by decide) (by decide))
          have DC_ := Aside0.mk (show Lib.IsBuilder 94 5 w.heap.size w1.heap.size (Lib.byteCells (acc ++ (nn ++ tt).data.toList)) wc from .inr (by rw [← strCells_of]; exact hd))
          clear hd hb hk HB_ BB_ DB_
          go_wp2_with fail
          go_roundg (gk - 1)
          case measure => have := HI.out; omega
          case rel => exact ⟨i + 1, _, by rw [show wrap64 ((i : Int) + 1) = ((i + 1 : Nat) : Int) from by have := HL; simp [wrap64, maxLen] at *; omega], ⟨by have := HI.out; omega⟩, HT, DC_, BC_, HC_⟩
        · have hltb := decide_eq_false hlt
          have hie : i = l0_8.length := by have := HI.out; omega
          have hT := HT.out
          rw [hie, List.drop_length] at hT
          unfold entsF at hT
          obtain rfl := Option.some.inj hT
          clear hT HT hie
          have p0 := blk_cell BB.out 0
          have p1 := blk_cell BB.out 1
          have p2 := blk_cell BB.out 2
          have p3 := blk_cell BB.out 3
          have p4 := blk_cell BB.out 4
          have p5 := blk_cell BB.out 5
          have p6 := blk_cell BB.out 6
          have p7 := blk_cell BB.out 7
          have p8 := blk_cell BB.out 8
          have p9 := blk_cell BB.out 9
          go_wp2_with fail
          clear p0 p1 p2 p3 p4 p5 p6 p7 p8 p9
          refine (pack_Text.calls a0_9 s4 er4 _ K4.out).mono ?_
          rintro e wa ⟨rfl, hb⟩
          have HA := Aside0.mk (below_call HH.out hb)
          have DA := Aside0.mk (bld_below DD.out hb)
          clear hb HH DD BB
          go_wp2_with fail
          refine (bws w.heap.size w1.heap.size (Lib.byteCells acc) s4 _ DA.out (by rw [Lib.byteCells_length]; exact Z4.out) HA.out.size).mono ?_
          rintro e wb ⟨rfl, hd, hb, hk⟩
          have HB_ := Aside0.mk (below_trans' HA.out hb)
          have DB_ := Aside0.mk (show Lib.IsBuilder 94 5 w.heap.size w1.heap.size (Lib.byteCells (acc ++ s4.data.toList)) wb from .inr (by rw [← strCells_of]; exact hd))
          clear hd hb hk HA DA
          go_wp2_with fail
          refine (bstr w.heap.size w1.heap.size _ _ DB_.out HB_.out.size).mono ?_
          rintro e wc ⟨rfl, hb⟩
          have HC_ := Aside0.mk (below_trans' HB_.out hb)
          clear hb HB_ DB_
          go_wp2_with fail
          refine (seal_Put.calls _ r1 r2 _ HP.out).mono ?_
          rintro e wd ⟨rfl, hb⟩
          have HD_ := Aside0.mk (below_call HC_.out hb)
          clear hb
          go_wp2_with fail
          go_ret2
          exact ⟨rfl, HD_.out⟩
    | false =>
      have p0 := blk_cell B7.out 0
      have p1 := blk_cell B7.out 1
      have p2 := blk_cell B7.out 2
      have p3 := blk_cell B7.out 3
      have p4 := blk_cell B7.out 4
      have p5 := blk_cell B7.out 5
      have p6 := blk_cell B7.out 6
      have p7 := blk_cell B7.out 7
      have p8 := blk_cell B7.out 8
      have p9 := blk_cell B7.out 9
      go_wp2_with fail
      clear p0 p1 p2 p3 p4 p5 p6 p7 p8 p9
      have hbl := below_alloc HB7.out (.cells #[.int .u64 0, .int .u64 (IntKind.u64.wrap (l0_8.length : Int))] 25)
      have b_ := blk_alloc B7.out (.cells #[.int .u64 0, .int .u64 (IntKind.u64.wrap (l0_8.length : Int))] 25)
      have d_ := bld_below D7.out (below_alloc (Below.refl w7.heap.size w7) (.cells #[.int .u64 0, .int .u64 (IntKind.u64.wrap (l0_8.length : Int))] 25))
      have v_ := blk_new w7 (.cells #[.int .u64 0, .int .u64 (IntKind.u64.wrap (l0_8.length : Int))] 25)
      obtain ⟨q7, hq7⟩ : ∃ q, w7.heap.size = q := ⟨_, rfl⟩
      rw [hq7] at v_ ⊢
      generalize w7.alloc (.cells #[.int .u64 0, .int .u64 (IntKind.u64.wrap (l0_8.length : Int))] 25) = w8 at hbl b_ d_ v_ ⊢
      have HB8 := Aside0.mk hbl
      have B8 := Aside0.mk b_
      have D8 := Aside0.mk d_
      have V8 := Aside0.mk v_
      clear hbl b_ d_ v_ hq7 HB7 B7 D7
      refine wp_loop_rounds 3 ?_
      rw [rounds_succ]
      have v0 := blk_cell V8.out 0
      go_wp2_with fail
      clear v0
      refine (pack_Num.calls 0 s1 er1 _ K1.out).mono ?_
      rintro e w9 ⟨rfl, hb⟩
      have HB9 := Aside0.mk (below_call HB8.out hb)
      have B9 := Aside0.mk (blk_below B8.out hb)
      have D9 := Aside0.mk (bld_below D8.out hb)
      have V9 := Aside0.mk (blk_below V8.out hb)
      clear hb HB8 B8 D8 V8
      go_wp2_with fail
      refine (bws w.heap.size w1.heap.size (Lib.byteCells (([] : List UInt8) ++ s0.data.toList)) s1 _ D9.out (by rw [Lib.byteCells_length]; exact Z1.out) HB9.out.size).mono ?_
      rintro e w10 ⟨rfl, hd, hb, hk⟩
      have HB10 := Aside0.mk (below_trans' HB9.out hb)
      have B10 := Aside0.mk (blk_T B9.out hk (by decide) (by decide))
      have D10 := Aside0.mk (show Lib.IsBuilder 94 5 w.heap.size w1.heap.size (Lib.byteCells ((([] : List UInt8) ++ s0.data.toList) ++ s1.data.toList)) w10 from .inr (by rw [← strCells_of]; exact hd))
      have V10 := Aside0.mk (blk_T V9.out hk (by decide) (by decide))
      clear hd hb hk HB9 B9 D9 V9
      go_wp2_with fail
      rw [rounds_succ]
      have v1 := blk_cell V10.out 1
      go_wp2_with fail
      clear v1
      refine (pack_Num.calls (IntKind.u64.wrap (l0_8.length : Int)) s2 er2 _ K2.out).mono ?_
      rintro e w11 ⟨rfl, hb⟩
      have HB11 := Aside0.mk (below_call HB10.out hb)
      have B11 := Aside0.mk (blk_below B10.out hb)
      have D11 := Aside0.mk (bld_below D10.out hb)
      clear hb HB10 B10 D10
      go_wp2_with fail
      refine (bws w.heap.size w1.heap.size (Lib.byteCells ((([] : List UInt8) ++ s0.data.toList) ++ s1.data.toList)) s2 _ D11.out (by rw [Lib.byteCells_length]; exact Z2.out) HB11.out.size).mono ?_
      rintro e w12 ⟨rfl, hd, hb, hk⟩
      have HB12 := Aside0.mk (below_trans' HB11.out hb)
      have B12 := Aside0.mk (blk_T B11.out hk (by decide) (by decide))
      have D12 := Aside0.mk (show Lib.IsBuilder 94 5 w.heap.size w1.heap.size (Lib.byteCells (((([] : List UInt8) ++ s0.data.toList) ++ s1.data.toList) ++ s2.data.toList)) w12 from .inr (by rw [← strCells_of]; exact hd))
      clear hd hb hk HB11 B11 D11
      go_wp2_with fail
      rw [rounds_succ]
      have p0 := blk_cell B12.out 0
      have p1 := blk_cell B12.out 1
      have p2 := blk_cell B12.out 2
      have p3 := blk_cell B12.out 3
      have p4 := blk_cell B12.out 4
      have p5 := blk_cell B12.out 5
      have p6 := blk_cell B12.out 6
      have p7 := blk_cell B12.out 7
      have p8 := blk_cell B12.out 8
      have p9 := blk_cell B12.out 9
      go_wp2_with fail
      clear p0 p1 p2 p3 p4 p5 p6 p7 p8 p9
      have K3a := Aside0.mk (show entsF l0_8 (((([] : List UInt8) ++ s0.data.toList) ++ s1.data.toList) ++ s2.data.toList) = some d3 from K3.out)
      generalize hacc : (((([] : List UInt8) ++ s0.data.toList) ++ s1.data.toList) ++ s2.data.toList) = acc0 at K3a D12
      clear hacc
      go_loopg [71] l0_8.length (fun g v71 wr => ∃ (i : Nat) (acc : List UInt8), v71 = .int .i64 (i : Int) ∧ Aside0 (i ≤ l0_8.length ∧ l0_8.length - i ≤ g) ∧ Aside0 (entsF (l0_8.drop i) acc = some d3) ∧ Aside0 (Lib.IsBuilder 94 5 w.heap.size w1.heap.size (Lib.byteCells acc) wr) ∧ Aside0 (wr.heap[w.heap.size]? = some (.cells #[.int .i64 a0_0, .int .u64 a0_1, .int .u64 a0_2, .int .u64 a0_3, .int .u64 a0_4, .int .u64 a0_5, .int .u64 a0_6, .bool false, .slice A0_8 l0_8.length c0_8, .string a0_9] 57 (0, 0))) ∧ Aside0 (Below w.heap.size w wr))
      case atStart => exact ⟨0, acc0, rfl, ⟨by omega⟩, K3a, D12, B12, HB12⟩
      case round =>
        clear K3a D12 B12 HB12
        obtain ⟨i, acc, rfl, HI, HT, DD, BB, HH⟩ := hrel
        by_cases hlt : (i : Int) < (l0_8.length : Int)
        · have hltb := decide_eq_true hlt
          obtain ⟨ad, hA, e0, e1⟩ := at_T75 (Kd.C_below HR.out HH.out) (i : Int) (by omega) hlt
          subst hA
          simp only [Int.toNat_natCast] at e0 e1
          have hT := HT.out
          rw [List.drop_eq_getElem_cons (show i < l0_8.length by omega)] at hT
          have hx : rd_T75 l0_8 (i : Int) = l0_8[i] := by simp [rd_T75, List.getD_eq_getElem?_getD, show i < l0_8.length by omega]
          rw [← hx] at hT
          generalize rd_T75 l0_8 (i : Int) = x at e0 e1 hT
          clear hx HT
          unfold entsF at hT
          obtain ⟨⟨nn, en⟩, hN, hT⟩ := Option.bind_eq_some_iff.mp hT
          dsimp only at hT
          obtain ⟨⟨tt, et⟩, hX, hT⟩ := Option.bind_eq_some_iff.mp hT
          dsimp only at hT
          by_cases hsz : nn.size + tt.size ≤ 4611686018427387904 ∧ acc.length + (nn ++ tt).size ≤ 140737488355328
          rotate_left
          · rw [if_neg hsz] at hT; cases hT
          rw [if_pos hsz] at hT
          obtain ⟨hs1, hs2⟩ := hsz
          have HT := Aside0.mk hT
          have HN := Aside0.mk hN
          have HX := Aside0.mk hX
          have HS2 := Aside0.mk hs2
          obtain ⟨x0, x1⟩ := x
          dsimp only at e0 e1
          dsimp only at hN hX
          have HN := Aside0.mk hN
          have HX := Aside0.mk hX
          clear hT hN hX hs2
          have p0 := eq_true (show (0 : Int) ≤ (i : Int) by omega)
          have p1 := eq_true hlt
          go_wp2_with fail
          have nb := blk_alloc BB.out (.cells #[.int .u64 x0, .string x1] 75)
          have nd := bld_below DD.out (below_alloc (Below.refl wr.heap.size wr) (.cells #[.int .u64 x0, .string x1] 75))
          have nh := below_alloc HH.out (.cells #[.int .u64 x0, .string x1] 75)
          have ne := blk_new wr (.cells #[.int .u64 x0, .string x1] 75)
          refine (pack_Num.calls x0 nn en _ HN.out).mono ?_
          rintro e wa ⟨rfl, hb⟩
          have HA := Aside0.mk (below_call nh hb)
          have BA := Aside0.mk (blk_below nb hb)
          have DA := Aside0.mk (bld_below nd hb)
          have EA := Aside0.mk (blk_below ne hb)
          clear hb nb nd nh ne e0 e1 DD BB HH
          have c1 := blk_cell EA.out 1
          go_wp2_with fail
          refine (pack_Text.calls x1 tt et _ HX.out).mono ?_
          rintro e wb ⟨rfl, hb⟩
          have HB_ := Aside0.mk (below_call HA.out hb)
          have BB_ := Aside0.mk (blk_below BA.out hb)
          have DB_ := Aside0.mk (bld_below DA.out hb)
          clear hb c1 HA BA DA EA
          go_wp2_with fail
          refine (bws w.heap.size w1.heap.size (Lib.byteCells acc) (nn ++ tt) _ DB_.out (by rw [Lib.byteCells_length]; exact HS2.out) HB_.out.size).mono ?_
          rintro e wc ⟨rfl, hd, hb, hk⟩
          have HC_ := Aside0.mk (below_trans' HB_.out hb)
          have BC_ := Aside0.mk (blk_T BB_.out hk (by decide) (by decide))
          have DC_ := Aside0.mk (show Lib.IsBuilder 94 5 w.heap.size w1.heap.size (Lib.byteCells (acc ++ (nn ++ tt).data.toList)) wc from .inr (by rw [← strCells_of]; exact hd))
          clear hd hb hk HB_ BB_ DB_
          go_wp2_with fail
          go_roundg (gk - 1)
          case measure => have := HI.out; omega
          case rel => exact ⟨i + 1, _, by rw [show wrap64 ((i : Int) + 1) = ((i + 1 : Nat) : Int) from by have := HL; simp [wrap64, maxLen] at *; omega], ⟨by have := HI.out; omega⟩, HT, DC_, BC_, HC_⟩
        · have hltb := decide_eq_false hlt
          have hie : i = l0_8.length := by have := HI.out; omega
          have hT := HT.out
          rw [hie, List.drop_length] at hT
          unfold entsF at hT
          obtain rfl := Option.some.inj hT
          clear hT HT hie
          have p0 := blk_cell BB.out 0
          have p1 := blk_cell BB.out 1
          have p2 := blk_cell BB.out 2
          have p3 := blk_cell BB.out 3
          have p4 := blk_cell BB.out 4
          have p5 := blk_cell BB.out 5
          have p6 := blk_cell BB.out 6
          have p7 := blk_cell BB.out 7
          have p8 := blk_cell BB.out 8
          have p9 := blk_cell BB.out 9
          go_wp2_with fail
          clear p0 p1 p2 p3 p4 p5 p6 p7 p8 p9
          refine (pack_Text.calls a0_9 s4 er4 _ K4.out).mono ?_
          rintro e wa ⟨rfl, hb⟩
          have HA := Aside0.mk (below_call HH.out hb)
          have DA := Aside0.mk (bld_below DD.out hb)
          clear hb HH DD BB
          go_wp2_with fail
          refine (bws w.heap.size w1.heap.size (Lib.byteCells acc) s4 _ DA.out (by rw [Lib.byteCells_length]; exact Z4.out) HA.out.size).mono ?_
          rintro e wb ⟨rfl, hd, hb, hk⟩
          have HB_ := Aside0.mk (below_trans' HA.out hb)
          have DB_ := Aside0.mk (show Lib.IsBuilder 94 5 w.heap.size w1.heap.size (Lib.byteCells (acc ++ s4.data.toList)) wb from .inr (by rw [← strCells_of]; exact hd))
          clear hd hb hk HA DA
          go_wp2_with fail
          refine (bstr w.heap.size w1.heap.size _ _ DB_.out HB_.out.size).mono ?_
          rintro e wc ⟨rfl, hb⟩
          have HC_ := Aside0.mk (below_trans' HB_.out hb)
          clear hb HB_ DB_
          go_wp2_with fail
          refine (seal_Put.calls _ r1 r2 _ HP.out).mono ?_
          rintro e wd ⟨rfl, hb⟩
          have HD_ := Aside0.mk (below_call HC_.out hb)
          clear hb
          go_wp2_with fail
          go_ret2
          exact ⟨rfl, HD_.out⟩
end Go.Proofs.Ytfjhlcbpogihmaa.Pr
