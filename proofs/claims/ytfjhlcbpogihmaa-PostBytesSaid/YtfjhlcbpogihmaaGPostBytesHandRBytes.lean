/- ferruleref17.Bytes: what it computes, and that it does. Conditions: none. -/
import Derived.Test.YtfjhlcbpogihmaaGPostBytesHandBytes
import Derived.Test.YtfjhlcbpogihmaaKPostBytes2
import Derived.Test.YtfjhlcbpogihmaaGPostBytesPr32
import Derived.Test.YtfjhlcbpogihmaaGPostBytesPr34
namespace Go.Proofs.Ytfjhlcbpogihmaa.Pr
open Go.RowKit Go.Proofs.YtfjhlcbpogihmaaW.PrintWords Go.Proofs.YtfjhlcbpogihmaaW.PrintLast Go.Proofs.YtfjhlcbpogihmaaW.PrintMore
open Go.Proofs.Ytfjhlcbpogihmaa.Hnd
attribute [local go_sem] setCell_drewN_ alloc_drewN_
set_option linter.unusedVariables false
set_option linter.unusedSimpArgs false
/-- append of a short row of bytes onto a row of one's own. -/
theorem run_appendMS (w : World) (base : Nat) (ty : TypeId) (v : Value) (l : List UInt8) (hown : OwnM w base v l) (q c2 : Nat) (m : List UInt8) (hm : ∀ j u, (Lib.byteCells m)[j]? = some u → w.cell? ⟨q, j, none⟩ = some u) (hb : l.length + m.length ≤ 140737488355328) (hbase : base ≤ w.heap.size) :
    ∃ v' w', (Builtin.append_ #[81, 81] ty #[v, .slice (some ⟨q, 0, none⟩) m.length c2]).run Try.prog w = .ok v' w' ∧ OwnM w' base v' (l ++ m) ∧ Below base w w' := by
  obtain ⟨i, hi, hzz⟩ := Option.map_eq_some_iff.1 (show (Try.prog.info? 5).map (fun i => (i.zero, i.size, i.bytes)) = some (some (.int .u8 0), 1, 1) by kernel_rfl)
  simp only [Prod.mk.injEq] at hzz
  obtain ⟨hz, hsize, hby⟩ := hzz
  have hown' := hown
  obtain ⟨g, cap, cur, fz, rfl, hbg, hg, hfz, hnc, hcm, hcs, htake⟩ := hown
  have hbl : (Lib.byteCells l).length = l.length := Lib.byteCells_length l
  have hml : (Lib.byteCells m).length = m.length := Lib.byteCells_length m
  have hcat : Lib.byteCells l ++ Lib.byteCells m = Lib.byteCells (l ++ m) := by simp [Lib.byteCells]
  have hadd : ∀ g j, (⟨g, 0, none⟩ : Addr).add j = ⟨g, j, none⟩ := fun g j => by unfold Addr.add; split <;> simp_all
  have hm' : ∀ j u, (Lib.byteCells m)[j]? = some u → w.cell? ((⟨q, 0, none⟩ : Addr).add j) = some u := fun j u h => by rw [hadd]; exact hm j u h
  by_cases hroom : l.length + m.length ≤ cap
  · have hf := run_firstCells_some (P := Try.prog) w 1 m.length ⟨q, 0, none⟩ m.length c2 (Lib.byteCells m) (by rw [hml, Nat.mul_one]) hm'
    have hst := storeM Try.prog g l.length 5 fz (Lib.byteCells m) 0 cur w hg (by rw [hcs]; exact hfz) (by rw [hml]; omega) (fun v hv => by simp only [Lib.byteCells, List.mem_map] at hv; obtain ⟨b, _, rfl⟩ := hv; rfl)
    simp only [Nat.add_zero, hml] at hst
    have hr : (Builtin.append_ #[81, 81] ty #[.slice (some ⟨g, 0, none⟩) l.length cap, .slice (some ⟨q, 0, none⟩) m.length c2]).run Try.prog w = .ok (.slice (some ⟨g, 0, none⟩) (l.length + m.length) cap) (w.setRow g (cur.toList.take l.length ++ Lib.byteCells m ++ cur.toList.drop (l.length + m.length)).toArray) := by
      simp [Builtin.append_, run_underlying Try.underlying81, sizeOf, typeInfo, hi, hsize, Builtin.lenOf, hroom, hf, Addr.add_lit, hst]
    refine ⟨_, _, hr, ⟨g, cap, _, fz, ?_, hbg, setRow_heap w g cur _ 5 _ hg, hfz, ?_, hcm, ?_, ?_⟩, ⟨rfl, rfl, rfl, by simp, fun k hk => setRow_other w g k _ (by omega)⟩⟩
    · rw [List.length_append]
    · rw [List.length_append]; exact hroom
    · simp only [List.size_toArray, List.length_append, List.length_take, List.length_drop, Array.length_toList, hml]
      omega
    · rw [← hcat, htake]
      have : (l ++ m).length = (Lib.byteCells l ++ Lib.byteCells m).length := by rw [List.length_append, List.length_append, hbl, hml]
      rw [this]
      exact List.take_left
  · have holds : ∀ j u, (Lib.byteCells l)[j]? = some u → w.cell? ((⟨g, 0, none⟩ : Addr).add j) = some u := fun j u hj => by
      rw [hadd]
      exact hown'.cells j u hj
    have hr := run_append_grow (P := Try.prog) w 81 ty 5 i (.int .u8 0) Try.underlying81 hi hz ⟨g, 0, none⟩ l.length cap (Lib.byteCells l) (by rw [hsize, hbl, Nat.mul_one]) holds ⟨q, 0, none⟩ m.length c2 (Lib.byteCells m) (by rw [hsize, hml, Nat.mul_one]) hm' (by omega) (by omega) (by rw [hby]; exact growslice_fits (by omega) (by omega))
    have hge := grownCap_ge w (l.length + m.length) cap 5
    have hcm2 : grownCap w (l.length + m.length) cap 5 ≤ maxLen := grownCap_le_maxLen w (l.length + m.length) cap 5 (by unfold maxLen; omega)
    refine ⟨_, _, hr, ⟨w.heap.size, _, _, (0, 0), ?_, hbase, heap_alloc_new w.drew _, .inl rfl, ?_, hcm2, ?_, ?_⟩, ⟨rfl, rfl, rfl, by simp, fun k hk => heap_alloc_old w.drew _ (by have : w.drew.heap.size = w.heap.size := rfl; omega)⟩⟩
    · rw [List.length_append]
    · rw [List.length_append]; exact hge
    · have hz1 : (Value.int IntKind.u8 0).cells.size = 1 := rfl
      simp only [Array.size_append, List.size_toArray, size_zeroCells, hz1, hbl, hml]
      omega
    · simp only [Array.toList_append, List.append_assoc]
      rw [← List.append_assoc, hcat]
      have : (l ++ m).length = (Lib.byteCells (l ++ m)).length := (Lib.byteCells_length _).symm
      rw [this]
      exact List.take_left
theorem wpList_appendMS {ops : Array Oper} {rest : List Oper} {o : Oper} {a : Act} {w : World} {Q : Exit → Act → World → Prop} (hgd : o.guard = none) (sl x : Operand)
    (ho : o.op = .call { callee := .builtin .append, args := #[sl, x], argTypes := #[81, 81] }) (base : Nat)
    (v : Value) (l : List UInt8) (hs : a.eval sl = v) (hown : OwnM w base v l) (q c2 : Nat) (m : List UInt8) (hx : a.eval x = .slice (some ⟨q, 0, none⟩) m.length c2) (hm : ∀ j u, (Lib.byteCells m)[j]? = some u → w.cell? ⟨q, j, none⟩ = some u) (hbytes : l.length + m.length ≤ 140737488355328) (hbase : base ≤ w.heap.size)
    (h : ∀ v' w', OwnM w' base v' (l ++ m) → Below base w w' → wpList Try.prog ops Q rest (a.put o.dst v') w') : wpList Try.prog ops Q (o :: rest) a w := by
  refine wpList_plain hgd fun K hK => ?_
  obtain ⟨v', w', hr, h2, h3⟩ := run_appendMS w base o.type v l hown q c2 m hm hbytes hbase
  unfold Oper.wp execOp
  simp only [ho, resolve, invoke, builtin, Sem.run_bind, Sem.run_pure, Result.andThen_ok, List.map_toArray, List.map_cons, List.map_nil, hs, hx, hr]
  exact hK _ _ (h v' w' h2 h3)
/-- The entries' bytes, as the document has them, behind those that are there. -/
def rentsF (k : Nat) : List S75 → List UInt8 → Option (List UInt8)
  | [], acc => some acc
  | e :: r, acc => (ferruleref01_Num.f k e.f0).bind fun n => (ferruleref01_Text.f k e.f1).bind fun t => if n.1.size + t.1.size ≤ 4611686018427387904 ∧ acc.length + (n.1 ++ t.1).size ≤ 140737488355328 then rentsF k r (acc ++ (n.1 ++ t.1).data.toList) else none
theorem rentsF_mono (k : Nat) : ∀ l acc, LeO (rentsF k l acc) (rentsF (k + 1) l acc)
  | [], _ => LeO.refl _
  | e :: r, acc => LeO.bind (ferruleref01_Num.mono _ _) (fun n => LeO.bind (ferruleref01_Text.mono _ _) (fun t => LeO.ite (rentsF_mono k r _) (LeO.refl _)))
def ferruleref17_Bytes.f (k : Nat) (a0_0 a0_1 a0_2 a0_3 a0_4 a0_5 a0_6 : Int) (a0_7 : Bool) (l0_8 : List S75) (a0_9 : ByteArray) : Option (ByteArray × Int) :=
  (ferruleref17_May.f k a0_0 a0_1 a0_2 a0_3 a0_4 a0_5 a0_6 a0_7 l0_8 a0_9).bind fun m => if m = true then
    (ref_Nums.f k [IntKind.u64.wrap a0_0, a0_1, a0_2, a0_3, a0_4, a0_5, a0_6]).bind fun b => if b.1.size ≤ 140737488355320 ∧ l0_8.length < 256 then
      (rentsF k l0_8 (b.1.data.toList ++ [if a0_7 = true then 1 else 0, UInt8.ofNat l0_8.length])).bind fun c => (ferruleref01_Text.f k a0_9).bind fun t =>
        if c.length + t.1.size ≤ 140737488355328 then ferruleref02_Put.f k ⟨(c ++ t.1.data.toList).toArray⟩ else none
      else none
    else some ((⟨#[]⟩ : ByteArray), 1)
theorem ferruleref17_Bytes.mono : ∀ a0 a1 a2 a3 a4 a5 a6 a7 a8 a9 k, LeO (ferruleref17_Bytes.f k a0 a1 a2 a3 a4 a5 a6 a7 a8 a9) (ferruleref17_Bytes.f (k + 1) a0 a1 a2 a3 a4 a5 a6 a7 a8 a9) := by
  intro a0 a1 a2 a3 a4 a5 a6 a7 a8 a9 k
  unfold ferruleref17_Bytes.f
  exact LeO.bind (ferruleref17_May.mono _ _ _ _ _ _ _ _ _ _ _) (fun m => LeO.ite (LeO.bind (ref_Nums.mono _ _) (fun b => LeO.ite (LeO.bind (rentsF_mono k _ _) (fun c => LeO.bind (ferruleref01_Text.mono _ _) (fun t => LeO.ite (ferruleref02_Put.mono _ _) (LeO.refl _)))) (LeO.refl _))) (LeO.refl _))
theorem byte_len (n : Nat) (h : n < 256) : IntKind.u8.wrap (n : Int) = ((UInt8.ofNat n).toNat : Int) := by
  rw [UInt8.toNat_ofNat_of_lt' (by simpa using h)]
  simp [IntKind.wrap, IntKind.signed, IntKind.bits]
  omega
theorem below_up {w w1 w2 : World} (h : Below w.heap.size w w1) (h2 : Below w1.heap.size w1 w2) : Below w.heap.size w w2 := below_call h h2
theorem below_on {b : Nat} {w w1 w2 : World} (h : Below b w w1) (h2 : Below b w1 w2) : Below b w w2 := h.trans h2
set_option maxHeartbeats 4000000 in
set_option maxRecDepth 100000 in
theorem ferruleref17_Bytes.calls (k : Nat) (a0_0 a0_1 a0_2 a0_3 a0_4 a0_5 a0_6 : Int) (a0_7 : Bool) (A0_8 : Option Addr) (c0_8 : Nat) (l0_8 : List S75) (a0_9 : ByteArray) (r1 : ByteArray) (r2 : Int) (w : World) (hr0_8 : Kd.C k75 w A0_8 l0_8.length l0_8) (hc0_8 : l0_8.length ≤ c0_8) (h : ferruleref17_Bytes.f k a0_0 a0_1 a0_2 a0_3 a0_4 a0_5 a0_6 a0_7 l0_8 a0_9 = some (r1, r2)) :
    Calls Try.prog 32 #[.agg #[.int .i64 a0_0, .int .u64 a0_1, .int .u64 a0_2, .int .u64 a0_3, .int .u64 a0_4, .int .u64 a0_5, .int .u64 a0_6, .bool a0_7, .slice A0_8 l0_8.length c0_8, .string a0_9]] w fun e w' => e = .returned (.tuple #[.string r1, .int .i64 r2]) ∧ Below w.heap.size w w' := by
  unfold ferruleref17_Bytes.f at h
  obtain ⟨m, hM, h⟩ := Option.bind_eq_some_iff.mp h
  have HM := Aside0.mk hM
  have HR := Aside0.mk hr0_8
  have HC := Aside0.mk hc0_8
  have HL : l0_8.length ≤ maxLen := hr0_8.2.1
  have hb1 := blk_new w (.cells #[.int .i64 a0_0, .int .u64 a0_1, .int .u64 a0_2, .int .u64 a0_3, .int .u64 a0_4, .int .u64 a0_5, .int .u64 a0_6, .bool a0_7, .slice A0_8 l0_8.length c0_8, .string a0_9] 57)
  have hB0 : Below w.heap.size w (w.alloc (.cells #[.int .i64 a0_0, .int .u64 a0_1, .int .u64 a0_2, .int .u64 a0_3, .int .u64 a0_4, .int .u64 a0_5, .int .u64 a0_6, .bool a0_7, .slice A0_8 l0_8.length c0_8, .string a0_9] 57)) := below_alloc (Below.refl _ _) _
  have hqq : (w.alloc (.cells #[.int .i64 a0_0, .int .u64 a0_1, .int .u64 a0_2, .int .u64 a0_3, .int .u64 a0_4, .int .u64 a0_5, .int .u64 a0_6, .bool a0_7, .slice A0_8 l0_8.length c0_8, .string a0_9] 57)).heap.size = w.heap.size + 1 := World.size_alloc _ _
  have B1 := Aside0.mk hb1
  have HB := Aside0.mk hB0
  have HQ := Aside0.mk hqq
  clear hM hr0_8 hc0_8 hb1 hB0 hqq
  cases m with
  | false =>
    rw [if_neg (by decide)] at h
    simp only [Option.some.injEq, Prod.mk.injEq] at h
    obtain ⟨rfl, rfl⟩ := h
    go_enter Try.func32, Try.ntmps32
    go_wp2_with fail
    refine (ferruleref17_May.calls k a0_0 a0_1 a0_2 a0_3 a0_4 a0_5 a0_6 a0_7 A0_8 c0_8 l0_8 a0_9 false _ (Kd.C_below HR.out HB.out) HC.out HM.out).mono ?_
    rintro e w1 ⟨rfl, hb⟩
    have HB1 := Aside0.mk (below_call HB.out hb)
    clear hb
    go_wp2_with fail
    go_ret2
    exact ⟨rfl, HB1.out⟩
  | true =>
    rw [if_pos rfl] at h
    obtain ⟨⟨s0, er0⟩, hN, h⟩ := Option.bind_eq_some_iff.mp h
    dsimp only at h
    by_cases hz : s0.size ≤ 140737488355320 ∧ l0_8.length < 256
    rotate_left
    · rw [if_neg hz] at h; cases h
    rw [if_pos hz] at h
    obtain ⟨hz0, hz1⟩ := hz
    obtain ⟨d3, hE, h⟩ := Option.bind_eq_some_iff.mp h
    obtain ⟨⟨s4, er4⟩, hT, h⟩ := Option.bind_eq_some_iff.mp h
    dsimp only at h
    by_cases hz4 : d3.length + s4.size ≤ 140737488355328
    rotate_left
    · rw [if_neg hz4] at h; cases h
    rw [if_pos hz4] at h
    have K0 := Aside0.mk hN
    have K3 := Aside0.mk hE
    have K4 := Aside0.mk hT
    have Z0 := Aside0.mk hz0
    have Z1 := Aside0.mk hz1
    have Z4 := Aside0.mk hz4
    have HP := Aside0.mk h
    clear h hN hE hT hz0 hz1 hz4
    cases a0_7 with
    | true =>
      go_enter Try.func32, Try.ntmps32
      go_wp2_with fail
      have hs1 := Aside0.mk (Below.refl (w.alloc (.cells #[.int .i64 a0_0, .int .u64 a0_1, .int .u64 a0_2, .int .u64 a0_3, .int .u64 a0_4, .int .u64 a0_5, .int .u64 a0_6, .bool true, .slice A0_8 l0_8.length c0_8, .string a0_9] 57)).heap.size (w.alloc (.cells #[.int .i64 a0_0, .int .u64 a0_1, .int .u64 a0_2, .int .u64 a0_3, .int .u64 a0_4, .int .u64 a0_5, .int .u64 a0_6, .bool true, .slice A0_8 l0_8.length c0_8, .string a0_9] 57)))
      generalize w.alloc (.cells #[.int .i64 a0_0, .int .u64 a0_1, .int .u64 a0_2, .int .u64 a0_3, .int .u64 a0_4, .int .u64 a0_5, .int .u64 a0_6, .bool true, .slice A0_8 l0_8.length c0_8, .string a0_9] 57) = w1 at B1 HB HQ hs1 ⊢
      refine (ferruleref17_May.calls k a0_0 a0_1 a0_2 a0_3 a0_4 a0_5 a0_6 true A0_8 c0_8 l0_8 a0_9 true _ (Kd.C_below HR.out HB.out) HC.out HM.out).mono ?_
      rintro e w2 ⟨rfl, hb⟩
      have HB2 := Aside0.mk (below_call hs1.out hb)
      have B2 := Aside0.mk (blk_below B1.out hb)
      clear hb
      have p0 := blk_cell B2.out 0
      have p1 := blk_cell B2.out 1
      have p2 := blk_cell B2.out 2
      have p3 := blk_cell B2.out 3
      have p4 := blk_cell B2.out 4
      have p5 := blk_cell B2.out 5
      have p6 := blk_cell B2.out 6
      have zl := blk_lt B2.out
      go_wp2_with fail
      clear p0 p1 p2 p3 p4 p5 p6 zl
      have hc := litU7 w2 (IntKind.u64.wrap a0_0) a0_1 a0_2 a0_3 a0_4 a0_5 a0_6
      have hbl := below_alloc HB2.out (.cells #[.int .u64 (IntKind.u64.wrap a0_0), .int .u64 a0_1, .int .u64 a0_2, .int .u64 a0_3, .int .u64 a0_4, .int .u64 a0_5, .int .u64 a0_6] 25)
      generalize w2.alloc (.cells #[.int .u64 (IntKind.u64.wrap a0_0), .int .u64 a0_1, .int .u64 a0_2, .int .u64 a0_3, .int .u64 a0_4, .int .u64 a0_5, .int .u64 a0_6] 25) = w3 at hc hbl ⊢
      refine (ref_Nums.calls k _ 7 [IntKind.u64.wrap a0_0, a0_1, a0_2, a0_3, a0_4, a0_5, a0_6] s0 er0 _ hc (Nat.le_refl _) K0.out).mono ?_
      rintro e w4 ⟨rfl, hb⟩
      have HB4 := Aside0.mk (below_call hbl hb)
      clear hb hc hbl HB2 B2
      have hcv := Lib.run_convert_string_bytes (P := Try.prog) w4 9 81 5 s0 Try.underlying9 Try.underlying81 Try.underlying5
      have hb5 : Below w1.heap.size w1 (Lib.bytesWorld w4 5 s0) := bytes_below HB4.out HB4.out.size 5 s0
      have p7 := blk_cell (blk_below B1.out hb5) 7
      have p8 := blk_cell (blk_below B1.out hb5) 8
      have ho6 := OwnM.below (OwnM.conv w4 w1.heap.size s0 HB4.out.size (by have := Z0.out; unfold maxLen; omega)) (below_alloc (Below.refl (Lib.bytesWorld w4 5 s0).heap.size (Lib.bytesWorld w4 5 s0)) (.cells #[.int .u8 1, .int .u8 ((l0_8.length : Int) % 256)] 5))
      have hb6 := below_alloc hb5 (.cells #[.int .u8 1, .int .u8 ((l0_8.length : Int) % 256)] 5)
      have n6 := blk_new (Lib.bytesWorld w4 5 s0) (.cells #[.int .u8 1, .int .u8 ((l0_8.length : Int) % 256)] 5)
      have hm6 : ∀ j u, (Lib.byteCells [1, UInt8.ofNat l0_8.length])[j]? = some u → ((Lib.bytesWorld w4 5 s0).alloc (.cells #[.int .u8 1, .int .u8 ((l0_8.length : Int) % 256)] 5)).cell? ⟨(Lib.bytesWorld w4 5 s0).heap.size, j, none⟩ = some u := by
        intro j u hj
        rw [cell_of_row _ _ j _ 5 _ n6, show (l0_8.length : Int) % 256 = ((UInt8.ofNat l0_8.length).toNat : Int) from by rw [← byte_len _ Z1.out]; simp [IntKind.wrap, IntKind.signed, IntKind.bits]]
        match j, hj with
        | 0, hj => simpa [Lib.byteCells] using hj
        | 1, hj => simpa [Lib.byteCells] using hj
      have hl6 : s0.data.toList.length + [(1 : UInt8), UInt8.ofNat l0_8.length].length ≤ 140737488355328 := by
        have := Z0.out
        have e : s0.data.toList.length = s0.size := Array.length_toList
        simp only [List.length_cons, List.length_nil]; omega
      have HO6 := Aside0.mk ho6
      have HB6 := Aside0.mk hb6
      have HM6 := Aside0.mk hm6
      have HL6 := Aside0.mk hl6
      clear hb5 ho6 hb6 n6 hm6 hl6
      go_wp2_with (at_builtin; refine wpList_appendMS rfl _ _ rfl w1.heap.size _ s0.data.toList rfl HO6.out _ 2 [1, UInt8.ofNat l0_8.length] rfl HM6.out HL6.out HB6.out.size ?_; intro v7 w7 ho hb; have HO7 := Aside0.mk ho; have HB7 := Aside0.mk (below_on HB6.out hb); clear ho hb HO6 HB6 HM6 HB4 hcv p7 p8)
      have K3a := Aside0.mk (show rentsF k l0_8 (s0.data.toList ++ [1, UInt8.ofNat l0_8.length]) = some d3 from K3.out)
      generalize hacc : (s0.data.toList ++ [1, UInt8.ofNat l0_8.length]) = acc0 at K3a HO7
      clear hacc K3
      go_loopg [7, 9] l0_8.length (fun g v7 v9 wr => ∃ (i : Nat) (acc : List UInt8), v9 = .int .i64 (i : Int) ∧ Aside0 (i ≤ l0_8.length ∧ l0_8.length - i ≤ g) ∧ Aside0 (rentsF k (l0_8.drop i) acc = some d3) ∧ Aside0 (OwnM wr w1.heap.size v7 acc) ∧ Aside0 (Below w1.heap.size w1 wr))
      case atStart => exact ⟨0, acc0, rfl, ⟨by omega⟩, K3a, HO7, HB7⟩
      case round =>
        clear K3a HO7 HB7
        obtain ⟨i, acc, rfl, HI, HT, HO, HH⟩ := hrel
        have c8 := blk_cell (blk_below B1.out HH.out) 8
        by_cases hlt : (i : Int) < (l0_8.length : Int)
        · have hltb := decide_eq_true hlt
          obtain ⟨ad, hA, e0, e1⟩ := at_T75 (Kd.C_below HR.out (below_up HB.out HH.out)) (i : Int) (by omega) hlt
          subst hA
          simp only [Int.toNat_natCast] at e0 e1
          have hT := HT.out
          rw [List.drop_eq_getElem_cons (show i < l0_8.length by omega)] at hT
          have hx : rd_T75 l0_8 (i : Int) = l0_8[i] := by simp [rd_T75, List.getD_eq_getElem?_getD, show i < l0_8.length by omega]
          rw [← hx] at hT
          generalize rd_T75 l0_8 (i : Int) = x at e0 e1 hT
          clear hx HT
          unfold rentsF at hT
          obtain ⟨⟨nn, en⟩, hN, hT⟩ := Option.bind_eq_some_iff.mp hT
          dsimp only at hT
          obtain ⟨⟨tt, et⟩, hX, hT⟩ := Option.bind_eq_some_iff.mp hT
          dsimp only at hT
          by_cases hsz : nn.size + tt.size ≤ 4611686018427387904 ∧ acc.length + (nn ++ tt).size ≤ 140737488355328
          rotate_left
          · rw [if_neg hsz] at hT; cases hT
          rw [if_pos hsz] at hT
          obtain ⟨hs1, hs2⟩ := hsz
          have HT := Aside0.mk hT
          have HS1 := Aside0.mk hs1
          have HS2 := Aside0.mk hs2
          obtain ⟨x0, x1⟩ := x
          dsimp only at e0 e1
          dsimp only at hN hX
          have HN := Aside0.mk hN
          have HX := Aside0.mk hX
          clear hT hN hX hs1 hs2
          have p0 := eq_true (show (0 : Int) ≤ (i : Int) by omega)
          have p1 := eq_true hlt
          go_wp2_with fail
          refine (ferruleref01_Num.calls k x0 nn en _ HN.out).mono ?_
          rintro e wa ⟨rfl, hb⟩
          have HA := Aside0.mk (below_call HH.out hb)
          have OA := Aside0.mk (OwnM.below HO.out hb)
          clear c8
          have c8 := blk_cell (blk_below B1.out HA.out) 8
          replace e1 := (hb.cell (World.block_lt_of_cell? wr _ e1)).trans e1
          clear hb e0 HO HH
          go_wp2_with fail
          refine (ferruleref01_Text.calls k x1 tt et _ HX.out).mono ?_
          rintro e wb ⟨rfl, hb⟩
          have HB_ := Aside0.mk (below_call HA.out hb)
          have OB_ := Aside0.mk (OwnM.below OA.out hb)
          clear hb e1 HA OA c8
          have hs1 := HS1.out
          go_wp2_with (at_builtin; refine wpList_appendM rfl _ _ rfl w1.heap.size _ acc rfl OB_.out (nn ++ tt) rfl HS2.out HB_.out.size ?_; intro v4 w4 ho hb; have HO4 := Aside0.mk ho; have HB4 := Aside0.mk (below_on HB_.out hb); clear ho hb)
          go_roundg (gk - 1)
          case measure => have := HI.out; omega
          case rel => exact ⟨i + 1, _, by rw [show wrap64 ((i : Int) + 1) = ((i + 1 : Nat) : Int) from by have := HL; simp [wrap64, maxLen] at *; omega], ⟨by have := HI.out; omega⟩, HT, HO4, HB4⟩
        · have hltb := decide_eq_false hlt
          have hie : i = l0_8.length := by have := HI.out; omega
          have hT := HT.out
          rw [hie, List.drop_length] at hT
          unfold rentsF at hT
          obtain rfl := Option.some.inj hT
          clear hT HT hie
          have c9 := blk_cell (blk_below B1.out HH.out) 9
          go_wp2_with fail
          clear c8 c9
          refine (ferruleref01_Text.calls k a0_9 s4 er4 _ K4.out).mono ?_
          rintro e wa ⟨rfl, hb⟩
          have HA := Aside0.mk (below_call HH.out hb)
          have OA := Aside0.mk (OwnM.below HO.out hb)
          clear hb HH HO
          go_wp2_with (at_builtin; refine wpList_appendM rfl _ _ rfl w1.heap.size _ acc rfl OA.out s4 rfl Z4.out HA.out.size ?_; intro v4 w4 ho hb; have HB4 := Aside0.mk (below_on HA.out hb); have hcv := ho.str; clear ho hb)
          refine (ferruleref02_Put.calls k _ r1 r2 _ HP.out).mono ?_
          rintro e wd ⟨rfl, hb⟩
          have HD_ := Aside0.mk (below_call HB4.out hb)
          clear hb
          go_wp2_with fail
          go_ret2
          exact ⟨rfl, below_up HB.out HD_.out⟩
    | false =>
      go_enter Try.func32, Try.ntmps32
      go_wp2_with fail
      have hs1 := Aside0.mk (Below.refl (w.alloc (.cells #[.int .i64 a0_0, .int .u64 a0_1, .int .u64 a0_2, .int .u64 a0_3, .int .u64 a0_4, .int .u64 a0_5, .int .u64 a0_6, .bool false, .slice A0_8 l0_8.length c0_8, .string a0_9] 57)).heap.size (w.alloc (.cells #[.int .i64 a0_0, .int .u64 a0_1, .int .u64 a0_2, .int .u64 a0_3, .int .u64 a0_4, .int .u64 a0_5, .int .u64 a0_6, .bool false, .slice A0_8 l0_8.length c0_8, .string a0_9] 57)))
      generalize w.alloc (.cells #[.int .i64 a0_0, .int .u64 a0_1, .int .u64 a0_2, .int .u64 a0_3, .int .u64 a0_4, .int .u64 a0_5, .int .u64 a0_6, .bool false, .slice A0_8 l0_8.length c0_8, .string a0_9] 57) = w1 at B1 HB HQ hs1 ⊢
      refine (ferruleref17_May.calls k a0_0 a0_1 a0_2 a0_3 a0_4 a0_5 a0_6 false A0_8 c0_8 l0_8 a0_9 true _ (Kd.C_below HR.out HB.out) HC.out HM.out).mono ?_
      rintro e w2 ⟨rfl, hb⟩
      have HB2 := Aside0.mk (below_call hs1.out hb)
      have B2 := Aside0.mk (blk_below B1.out hb)
      clear hb
      have p0 := blk_cell B2.out 0
      have p1 := blk_cell B2.out 1
      have p2 := blk_cell B2.out 2
      have p3 := blk_cell B2.out 3
      have p4 := blk_cell B2.out 4
      have p5 := blk_cell B2.out 5
      have p6 := blk_cell B2.out 6
      have zl := blk_lt B2.out
      go_wp2_with fail
      clear p0 p1 p2 p3 p4 p5 p6 zl
      have hc := litU7 w2 (IntKind.u64.wrap a0_0) a0_1 a0_2 a0_3 a0_4 a0_5 a0_6
      have hbl := below_alloc HB2.out (.cells #[.int .u64 (IntKind.u64.wrap a0_0), .int .u64 a0_1, .int .u64 a0_2, .int .u64 a0_3, .int .u64 a0_4, .int .u64 a0_5, .int .u64 a0_6] 25)
      generalize w2.alloc (.cells #[.int .u64 (IntKind.u64.wrap a0_0), .int .u64 a0_1, .int .u64 a0_2, .int .u64 a0_3, .int .u64 a0_4, .int .u64 a0_5, .int .u64 a0_6] 25) = w3 at hc hbl ⊢
      refine (ref_Nums.calls k _ 7 [IntKind.u64.wrap a0_0, a0_1, a0_2, a0_3, a0_4, a0_5, a0_6] s0 er0 _ hc (Nat.le_refl _) K0.out).mono ?_
      rintro e w4 ⟨rfl, hb⟩
      have HB4 := Aside0.mk (below_call hbl hb)
      clear hb hc hbl HB2 B2
      have hcv := Lib.run_convert_string_bytes (P := Try.prog) w4 9 81 5 s0 Try.underlying9 Try.underlying81 Try.underlying5
      have hb5 : Below w1.heap.size w1 (Lib.bytesWorld w4 5 s0) := bytes_below HB4.out HB4.out.size 5 s0
      have p7 := blk_cell (blk_below B1.out hb5) 7
      have p8 := blk_cell (blk_below B1.out hb5) 8
      have ho6 := OwnM.below (OwnM.conv w4 w1.heap.size s0 HB4.out.size (by have := Z0.out; unfold maxLen; omega)) (below_alloc (Below.refl (Lib.bytesWorld w4 5 s0).heap.size (Lib.bytesWorld w4 5 s0)) (.cells #[.int .u8 0, .int .u8 ((l0_8.length : Int) % 256)] 5))
      have hb6 := below_alloc hb5 (.cells #[.int .u8 0, .int .u8 ((l0_8.length : Int) % 256)] 5)
      have n6 := blk_new (Lib.bytesWorld w4 5 s0) (.cells #[.int .u8 0, .int .u8 ((l0_8.length : Int) % 256)] 5)
      have hm6 : ∀ j u, (Lib.byteCells [0, UInt8.ofNat l0_8.length])[j]? = some u → ((Lib.bytesWorld w4 5 s0).alloc (.cells #[.int .u8 0, .int .u8 ((l0_8.length : Int) % 256)] 5)).cell? ⟨(Lib.bytesWorld w4 5 s0).heap.size, j, none⟩ = some u := by
        intro j u hj
        rw [cell_of_row _ _ j _ 5 _ n6, show (l0_8.length : Int) % 256 = ((UInt8.ofNat l0_8.length).toNat : Int) from by rw [← byte_len _ Z1.out]; simp [IntKind.wrap, IntKind.signed, IntKind.bits]]
        match j, hj with
        | 0, hj => simpa [Lib.byteCells] using hj
        | 1, hj => simpa [Lib.byteCells] using hj
      have hl6 : s0.data.toList.length + [(0 : UInt8), UInt8.ofNat l0_8.length].length ≤ 140737488355328 := by
        have := Z0.out
        have e : s0.data.toList.length = s0.size := Array.length_toList
        simp only [List.length_cons, List.length_nil]; omega
      have HO6 := Aside0.mk ho6
      have HB6 := Aside0.mk hb6
      have HM6 := Aside0.mk hm6
      have HL6 := Aside0.mk hl6
      clear hb5 ho6 hb6 n6 hm6 hl6
      go_wp2_with (at_builtin; refine wpList_appendMS rfl _ _ rfl w1.heap.size _ s0.data.toList rfl HO6.out _ 2 [0, UInt8.ofNat l0_8.length] rfl HM6.out HL6.out HB6.out.size ?_; intro v7 w7 ho hb; have HO7 := Aside0.mk ho; have HB7 := Aside0.mk (below_on HB6.out hb); clear ho hb HO6 HB6 HM6 HB4 hcv p7 p8)
      have K3a := Aside0.mk (show rentsF k l0_8 (s0.data.toList ++ [0, UInt8.ofNat l0_8.length]) = some d3 from K3.out)
      generalize hacc : (s0.data.toList ++ [0, UInt8.ofNat l0_8.length]) = acc0 at K3a HO7
      clear hacc K3
      go_loopg [7, 9] l0_8.length (fun g v7 v9 wr => ∃ (i : Nat) (acc : List UInt8), v9 = .int .i64 (i : Int) ∧ Aside0 (i ≤ l0_8.length ∧ l0_8.length - i ≤ g) ∧ Aside0 (rentsF k (l0_8.drop i) acc = some d3) ∧ Aside0 (OwnM wr w1.heap.size v7 acc) ∧ Aside0 (Below w1.heap.size w1 wr))
      case atStart => exact ⟨0, acc0, rfl, ⟨by omega⟩, K3a, HO7, HB7⟩
      case round =>
        clear K3a HO7 HB7
        obtain ⟨i, acc, rfl, HI, HT, HO, HH⟩ := hrel
        have c8 := blk_cell (blk_below B1.out HH.out) 8
        by_cases hlt : (i : Int) < (l0_8.length : Int)
        · have hltb := decide_eq_true hlt
          obtain ⟨ad, hA, e0, e1⟩ := at_T75 (Kd.C_below HR.out (below_up HB.out HH.out)) (i : Int) (by omega) hlt
          subst hA
          simp only [Int.toNat_natCast] at e0 e1
          have hT := HT.out
          rw [List.drop_eq_getElem_cons (show i < l0_8.length by omega)] at hT
          have hx : rd_T75 l0_8 (i : Int) = l0_8[i] := by simp [rd_T75, List.getD_eq_getElem?_getD, show i < l0_8.length by omega]
          rw [← hx] at hT
          generalize rd_T75 l0_8 (i : Int) = x at e0 e1 hT
          clear hx HT
          unfold rentsF at hT
          obtain ⟨⟨nn, en⟩, hN, hT⟩ := Option.bind_eq_some_iff.mp hT
          dsimp only at hT
          obtain ⟨⟨tt, et⟩, hX, hT⟩ := Option.bind_eq_some_iff.mp hT
          dsimp only at hT
          by_cases hsz : nn.size + tt.size ≤ 4611686018427387904 ∧ acc.length + (nn ++ tt).size ≤ 140737488355328
          rotate_left
          · rw [if_neg hsz] at hT; cases hT
          rw [if_pos hsz] at hT
          obtain ⟨hs1, hs2⟩ := hsz
          have HT := Aside0.mk hT
          have HS1 := Aside0.mk hs1
          have HS2 := Aside0.mk hs2
          obtain ⟨x0, x1⟩ := x
          dsimp only at e0 e1
          dsimp only at hN hX
          have HN := Aside0.mk hN
          have HX := Aside0.mk hX
          clear hT hN hX hs1 hs2
          have p0 := eq_true (show (0 : Int) ≤ (i : Int) by omega)
          have p1 := eq_true hlt
          go_wp2_with fail
          refine (ferruleref01_Num.calls k x0 nn en _ HN.out).mono ?_
          rintro e wa ⟨rfl, hb⟩
          have HA := Aside0.mk (below_call HH.out hb)
          have OA := Aside0.mk (OwnM.below HO.out hb)
          clear c8
          have c8 := blk_cell (blk_below B1.out HA.out) 8
          replace e1 := (hb.cell (World.block_lt_of_cell? wr _ e1)).trans e1
          clear hb e0 HO HH
          go_wp2_with fail
          refine (ferruleref01_Text.calls k x1 tt et _ HX.out).mono ?_
          rintro e wb ⟨rfl, hb⟩
          have HB_ := Aside0.mk (below_call HA.out hb)
          have OB_ := Aside0.mk (OwnM.below OA.out hb)
          clear hb e1 HA OA c8
          have hs1 := HS1.out
          go_wp2_with (at_builtin; refine wpList_appendM rfl _ _ rfl w1.heap.size _ acc rfl OB_.out (nn ++ tt) rfl HS2.out HB_.out.size ?_; intro v4 w4 ho hb; have HO4 := Aside0.mk ho; have HB4 := Aside0.mk (below_on HB_.out hb); clear ho hb)
          go_roundg (gk - 1)
          case measure => have := HI.out; omega
          case rel => exact ⟨i + 1, _, by rw [show wrap64 ((i : Int) + 1) = ((i + 1 : Nat) : Int) from by have := HL; simp [wrap64, maxLen] at *; omega], ⟨by have := HI.out; omega⟩, HT, HO4, HB4⟩
        · have hltb := decide_eq_false hlt
          have hie : i = l0_8.length := by have := HI.out; omega
          have hT := HT.out
          rw [hie, List.drop_length] at hT
          unfold rentsF at hT
          obtain rfl := Option.some.inj hT
          clear hT HT hie
          have c9 := blk_cell (blk_below B1.out HH.out) 9
          go_wp2_with fail
          clear c8 c9
          refine (ferruleref01_Text.calls k a0_9 s4 er4 _ K4.out).mono ?_
          rintro e wa ⟨rfl, hb⟩
          have HA := Aside0.mk (below_call HH.out hb)
          have OA := Aside0.mk (OwnM.below HO.out hb)
          clear hb HH HO
          go_wp2_with (at_builtin; refine wpList_appendM rfl _ _ rfl w1.heap.size _ acc rfl OA.out s4 rfl Z4.out HA.out.size ?_; intro v4 w4 ho hb; have HB4 := Aside0.mk (below_on HA.out hb); have hcv := ho.str; clear ho hb)
          refine (ferruleref02_Put.calls k _ r1 r2 _ HP.out).mono ?_
          rintro e wd ⟨rfl, hb⟩
          have HD_ := Aside0.mk (below_call HB4.out hb)
          clear hb
          go_wp2_with fail
          go_ret2
          exact ⟨rfl, below_up HB.out HD_.out⟩
end Go.Proofs.Ytfjhlcbpogihmaa.Pr
