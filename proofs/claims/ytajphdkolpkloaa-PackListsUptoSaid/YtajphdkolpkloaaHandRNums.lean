/- ferruleref01.Nums: what it computes, and that it does; append onto []byte(s). Conditions: none. -/
import Derived.Test.YtajphdkolpkloaaPr4
import Derived.Test.YtajphdkolpkloaaHnd
import Derived.Lib.FrozenHead
import Derived.Lib.ConvBytes
import Derived.Laws.IdiomStrings
namespace Go.Proofs.Ytajphdkolpkloaa.Pr
open Go.RowKit Go.Proofs.YtajphdkolpkloaaW.PrintWords Go.Proofs.YtajphdkolpkloaaW.PrintLast Go.Proofs.YtajphdkolpkloaaW.PrintMore
open Go.Proofs.Ytajphdkolpkloaa.Hnd
attribute [local go_sem] setCell_drewN_ alloc_drewN_
set_option linter.unusedVariables false
set_option linter.unusedSimpArgs false
/-- A row of bytes of one's own that may bear a conversion's mark behind all its places. -/
def OwnM (w : World) (base : Nat) (v : Value) (l : List UInt8) : Prop :=
  ∃ g cap cur fz, v = .slice (some ⟨g, 0, none⟩) l.length cap ∧ base ≤ g ∧ w.heap[g]? = some (.cells cur 5 fz) ∧ (fz = (0, 0) ∨ cap ≤ fz.1) ∧ l.length ≤ cap ∧ cap ≤ maxLen ∧ cur.size = cap ∧ cur.toList.take l.length = Lib.byteCells l
theorem storeM (P : Program) (g o : Nat) (t : TypeId) (fz : Nat × Nat) : ∀ (vs : List Value) (i : Nat) (cur : Array Value) (w : World), w.heap[g]? = some (.cells cur t fz) → (fz = (0, 0) ∨ cur.size ≤ fz.1) → o + i + vs.length ≤ cur.size → (∀ v ∈ vs, v.oneCell' = true) →
    (storeCells ⟨g, o, none⟩ vs i).run P w = .ok () (w.setRow g (cur.toList.take (o + i) ++ vs ++ cur.toList.drop (o + i + vs.length)).toArray)
  | [], i, cur, w, hg, _, _, _ => by
    simp only [storeCells, List.append_nil, List.length_nil, Nat.add_zero, List.take_append_drop, Array.toArray_toList]
    rw [setRow_self w g cur t fz hg]
    rfl
  | v :: rest, i, cur, w, hg, hfz, hl, h1 => by
    have hi : o + i < cur.size := by simp at hl; omega
    have hadd : (⟨g, o, none⟩ : Addr).add i = ⟨g, o + i, none⟩ := by unfold Addr.add; split <;> simp_all
    have hcell : w.cell? ⟨g, o + i, none⟩ = some cur[o + i] := by simp [World.cell?, hg, hi]
    have hfro : w.frozen? ⟨g, o + i, none⟩ = false := by
      obtain ⟨lo, hi'⟩ := fz
      simp only [World.frozen?, hg, Bool.and_eq_false_iff, decide_eq_false_iff_not]
      rcases hfz with hfz | hfz
      · injection hfz with h1 h2
        subst h1 h2
        right; omega
      · left
        simp only at hfz
        omega
    have hst : (store ((⟨g, o, none⟩ : Addr).add i) v).run P w = .ok () (w.setRow g (cur.setIfInBounds (o + i) v)) := by
      rw [hadd, run_store P w _ v _ (h1 v (by simp)), hcell]
      simp [hfro, setCell_eq_setRow w g (o + i) cur t fz v hg]
    have ih := storeM P g o t fz rest (i + 1) (cur.setIfInBounds (o + i) v) (w.setRow g (cur.setIfInBounds (o + i) v)) (setRow_heap w g cur _ t _ hg) (by simpa using hfz) (by simp at hl ⊢; omega) (fun x hx => h1 x (by simp [hx]))
    simp only [storeCells, Sem.run_bind, hst, Result.andThen_ok, ih, setRow_setRow]
    congr 3
    have e := list_seg_step cur.toList (o + i) v rest (by simp at hl ⊢; omega)
    simpa [Array.toList_setIfInBounds, Nat.add_assoc] using e
theorem OwnM.cells {w : World} {base g n cap : Nat} {l : List UInt8} (h : OwnM w base (.slice (some ⟨g, 0, none⟩) n cap) l) : ∀ j u, (Lib.byteCells l)[j]? = some u → w.cell? ⟨g, j, none⟩ = some u := by
  intro j u hu
  obtain ⟨g', cap', cur, fz, e, _, hgg, _, _, _, hcs, htake⟩ := h
  injection e with e1 e2 e3
  injection e1 with e1
  injection e1 with e1 _ _
  subst e1
  rw [cell_of_row w g j cur 5 fz hgg]
  rw [← htake, List.getElem?_take] at hu
  split at hu
  · simpa using hu
  · cases hu
/-- append of a text onto such a row. -/
theorem run_appendM (w : World) (base : Nat) (ty : TypeId) (v : Value) (l : List UInt8) (hown : OwnM w base v l) (s : ByteArray) (hb : l.length + s.size ≤ 140737488355328) (hbase : base ≤ w.heap.size) :
    ∃ v' w', (Builtin.append_ #[58, 9] ty #[v, .string s]).run Try.prog w = .ok v' w' ∧ OwnM w' base v' (l ++ s.data.toList) ∧ Below base w w' := by
  obtain ⟨i, hi, hzz⟩ := Option.map_eq_some_iff.1 (show (Try.prog.info? 5).map (fun i => (i.zero, i.size, i.bytes)) = some (some (.int .u8 0), 1, 1) by kernel_rfl)
  simp only [Prod.mk.injEq] at hzz
  obtain ⟨hz, hsize, hby⟩ := hzz
  have hown' := hown
  obtain ⟨g, cap, cur, fz, rfl, hbg, hg, hfz, hnc, hcm, hcs, htake⟩ := hown
  have hsl : s.data.toList.length = s.size := by rw [Array.length_toList]; rfl
  have hbl : (Lib.byteCells l).length = l.length := Lib.byteCells_length l
  have hcat : Lib.byteCells l ++ Lib.strCells s = Lib.byteCells (l ++ s.data.toList) := by rw [Lib.strCells_eq]; simp [Lib.byteCells]
  by_cases hroom : l.length + s.size ≤ cap
  · have hf := Lib.run_firstCells_string (P := Try.prog) w 1 s
    have hst := storeM Try.prog g l.length 5 fz (Lib.strCells s) 0 cur w hg (by rw [hcs]; exact hfz) (by rw [Lib.strCells_length]; omega) (Lib.strCells_oneCell s)
    simp only [Nat.add_zero, Lib.strCells_length] at hst
    have hr : (Builtin.append_ #[58, 9] ty #[.slice (some ⟨g, 0, none⟩) l.length cap, .string s]).run Try.prog w = .ok (.slice (some ⟨g, 0, none⟩) (l.length + s.size) cap) (w.setRow g (cur.toList.take l.length ++ Lib.strCells s ++ cur.toList.drop (l.length + s.size)).toArray) := by
      simp [Builtin.append_, run_underlying Try.underlying58, run_underlying Try.underlying9, sizeOf, typeInfo, hi, hsize, Builtin.lenOf, hroom, hf, Addr.add_lit, hst]
    refine ⟨_, _, hr, ⟨g, cap, _, fz, ?_, hbg, setRow_heap w g cur _ 5 _ hg, hfz, ?_, hcm, ?_, ?_⟩, ⟨rfl, rfl, rfl, by simp, fun k hk => setRow_other w g k _ (by omega)⟩⟩
    · rw [List.length_append, hsl]
    · rw [List.length_append, hsl]; exact hroom
    · simp only [List.size_toArray, List.length_append, List.length_take, List.length_drop, Array.length_toList, Lib.strCells_length]
      omega
    · rw [← hcat, htake]
      have : (l ++ s.data.toList).length = (Lib.byteCells l ++ Lib.strCells s).length := by rw [List.length_append, List.length_append, hbl, Lib.strCells_length, hsl]
      rw [this]
      exact List.take_left
  · have holds : ∀ j u, (Lib.byteCells l)[j]? = some u → w.cell? ((⟨g, 0, none⟩ : Addr).add j) = some u := fun j u hj => by
      have ha : (⟨g, 0, none⟩ : Addr).add j = ⟨g, j, none⟩ := by unfold Addr.add; split <;> simp_all
      rw [ha]
      exact hown'.cells j u hj
    have hr := Lib.run_append_grow_string (P := Try.prog) w 58 9 ty 5 i (.int .u8 0) Try.underlying58 Try.underlying9 hi hz ⟨g, 0, none⟩ l.length cap (Lib.byteCells l) (by rw [hsize, hbl, Nat.mul_one]) holds s (by omega) (by omega) (by rw [hby]; exact growslice_fits (by omega) (by omega))
    have hge := grownCap_ge w (l.length + s.size) cap 5
    have hcm2 : grownCap w (l.length + s.size) cap 5 ≤ maxLen := grownCap_le_maxLen w (l.length + s.size) cap 5 (by unfold maxLen; omega)
    refine ⟨_, _, hr, ⟨w.heap.size, _, _, (0, 0), ?_, hbase, heap_alloc_new w.drew _, .inl rfl, ?_, hcm2, ?_, ?_⟩, ⟨rfl, rfl, rfl, by simp, fun k hk => heap_alloc_old w.drew _ (by have : w.drew.heap.size = w.heap.size := rfl; omega)⟩⟩
    · rw [List.length_append, hsl]
    · rw [List.length_append, hsl]; exact hge
    · have hz1 : (Value.int IntKind.u8 0).cells.size = 1 := rfl
      simp only [Array.size_append, List.size_toArray, size_zeroCells, hz1, hbl, Lib.strCells_length]
      omega
    · simp only [Array.toList_append, List.append_assoc]
      rw [← List.append_assoc, hcat]
      have : (l ++ s.data.toList).length = (Lib.byteCells (l ++ s.data.toList)).length := (Lib.byteCells_length _).symm
      rw [this]
      exact List.take_left
theorem wpList_appendM {ops : Array Oper} {rest : List Oper} {o : Oper} {a : Act} {w : World} {Q : Exit → Act → World → Prop} (hgd : o.guard = none) (sl x : Operand)
    (ho : o.op = .call { callee := .builtin .append, args := #[sl, x], argTypes := #[58, 9] }) (base : Nat)
    (v : Value) (l : List UInt8) (hs : a.eval sl = v) (hown : OwnM w base v l) (s : ByteArray) (hx : a.eval x = .string s) (hbytes : l.length + s.size ≤ 140737488355328) (hbase : base ≤ w.heap.size)
    (h : ∀ v' w', OwnM w' base v' (l ++ s.data.toList) → Below base w w' → wpList Try.prog ops Q rest (a.put o.dst v') w') : wpList Try.prog ops Q (o :: rest) a w := by
  refine wpList_plain hgd fun K hK => ?_
  obtain ⟨v', w', hr, h2, h3⟩ := run_appendM w base o.type v l hown s hbytes hbase
  unfold Oper.wp execOp
  simp only [ho, resolve, invoke, builtin, Sem.run_bind, Sem.run_pure, Result.andThen_ok, List.map_toArray, List.map_cons, List.map_nil, hs, hx, hr]
  exact hK _ _ (h v' w' h2 h3)
theorem OwnM.conv (w : World) (base : Nat) (s : ByteArray) (hbase : base ≤ w.heap.size) (hs : s.size ≤ maxLen) : OwnM (Lib.bytesWorld w 5 s) base (.slice (some ⟨w.heap.size, 0, none⟩) s.size (grownCap w s.size 0 5)) s.data.toList := by
  have hsl : s.data.toList.length = s.size := by rw [Array.length_toList]; rfl
  have hge := grownCap_ge w s.size 0 5
  have hsz : (Lib.bytesCells w 5 s).size = grownCap w s.size 0 5 := by
    unfold Lib.bytesCells
    rw [Array.size_append, Array.size_map, Array.size_replicate]
    have : s.data.size = s.size := rfl
    omega
  refine ⟨w.heap.size, _, _, _, by rw [hsl], hbase, Lib.bytesWorld_at_new w 5 s, .inr (by rw [hsz]; exact Nat.le_refl _), by rw [hsl]; exact hge, grownCap_le_maxLen w s.size 0 5 hs, hsz, ?_⟩
  unfold Lib.bytesCells
  rw [Array.toList_append, Array.toList_map, List.take_append_of_le_length (by simp [hsl]), List.take_of_length_le (by simp)]
  rfl
theorem OwnM.below {w w' : World} {base : Nat} {v : Value} {l : List UInt8} (h : OwnM w base v l) (hb : Below w.heap.size w w') : OwnM w' base v l := by
  obtain ⟨g, cap, cur, fz, e, hbg, hg, r⟩ := h
  refine ⟨g, cap, cur, fz, e, hbg, ?_, r⟩
  have : g < w.heap.size := (Array.getElem?_eq_some_iff.1 hg).1
  rw [hb.block g this]
  exact hg
theorem OwnM.str {w : World} {base : Nat} {v : Value} {l : List UInt8} (h : OwnM w base v l) : (convert 58 9 v).run Try.prog w = .ok (.string ⟨l.toArray⟩) w := by
  have h' := h
  obtain ⟨g, cap, cur, fz, rfl, hbg, hg, r⟩ := h
  refine run_convert_bytes_back w 58 9 5 ⟨g, 0, none⟩ cap l Try.underlying58 Try.underlying5 Try.underlying9 (fun j hj => ?_)
  have ha : (⟨g, 0, none⟩ : Addr).add j = ⟨g, j, none⟩ := by unfold Addr.add; split <;> simp_all
  rw [ha]
  exact h'.cells j _ (by simp [Lib.byteCells, hj])
theorem OwnM.form {w : World} {base : Nat} {v : Value} {l : List UInt8} (h : OwnM w base v l) : ∃ A cap, v = .slice A l.length cap := by
  obtain ⟨g, cap, cur, fz, rfl, _⟩ := h
  exact ⟨_, _, rfl⟩
/-- The bytes of numbers, behind those that are there, as the document has it. -/
def rnumsF (k : Nat) : List Int → List UInt8 → Option (ByteArray × Int)
  | [], acc => some (⟨acc.toArray⟩, 0)
  | v :: r, acc => (ferruleref01_Num.f k v).bind fun b => if b.2 = 0 then (if acc.length + b.1.size ≤ 140737488355328 then rnumsF k r (acc ++ b.1.data.toList) else none) else some ((⟨#[]⟩ : ByteArray), b.2)
def ref_Nums.f (k : Nat) (l0 : List Int) : Option (ByteArray × Int) := if l0.length ≤ 1048576 then (ferruleref01_Num.f k (l0.length : Int)).bind fun b => (if b.1.size ≤ 140737488355328 then rnumsF k l0 b.1.data.toList else none) else none
theorem rnumsF_mono (k : Nat) : ∀ l acc, LeO (rnumsF k l acc) (rnumsF (k + 1) l acc)
  | [], _ => LeO.refl _
  | v :: r, acc => LeO.bind (ferruleref01_Num.mono _ _) (fun b => LeO.ite (LeO.ite (rnumsF_mono k r _) (LeO.refl _)) (LeO.refl _))
theorem ref_Nums.mono : ∀ a0 k, LeO (ref_Nums.f k a0) (ref_Nums.f (k + 1) a0) := fun l k =>
  LeO.ite (LeO.bind (ferruleref01_Num.mono _ _) (fun b => LeO.ite (rnumsF_mono k l _) (LeO.refl _))) (LeO.refl _)
theorem below_trans'' {w w1 w2 : World} (h : Below w.heap.size w w1) (h2 : Below w.heap.size w1 w2) : Below w.heap.size w w2 := h.trans h2
set_option maxHeartbeats 4000000 in
set_option maxRecDepth 100000 in
theorem ref_Nums.calls (k : Nat) (A0 : Option Addr) (c0 : Nat) (l0 : List Int) (r1 : ByteArray) (r2 : Int) (w : World) (hr0 : Kd.C (Kd.int .u64) w A0 l0.length l0) (hc0 : l0.length ≤ c0) (h : ref_Nums.f k l0 = some (r1, r2)) :
    Calls Try.prog 23 #[.slice A0 l0.length c0] w fun e w' => e = .returned (.tuple #[.string r1, .int .i64 r2]) ∧ Below w.heap.size w w' := by
  unfold ref_Nums.f at h
  by_cases hl : l0.length ≤ 1048576
  rotate_left
  · rw [if_neg hl] at h; cases h
  rw [if_pos hl] at h
  replace h := Option.bind_eq_some_iff.mp h
  obtain ⟨⟨s0, e0⟩, hN0, h⟩ := h
  dsimp only at h
  by_cases hs0 : s0.size ≤ 140737488355328
  rotate_left
  · rw [if_neg hs0] at h; cases h
  rw [if_pos hs0] at h
  have HR := Aside0.mk hr0
  have HL := Aside0.mk hl
  have HF := Aside0.mk h
  have HN0 := Aside0.mk hN0
  have HS0 := Aside0.mk hs0
  have hwl : IntKind.u64.wrap (l0.length : Int) = (l0.length : Int) := by simp [IntKind.wrap, IntKind.signed, IntKind.bits]; omega
  clear hr0 hc0 hl h hN0 hs0
  go_enter Try.func23, Try.ntmps23
  go_wp2_with fail
  refine (ferruleref01_Num.calls k _ s0 e0 _ HN0.out).mono ?_
  rintro e w1 ⟨rfl, hb⟩
  have HB1 := Aside0.mk (below_call (Below.refl w.heap.size w) hb)
  clear hb
  have hcv := Lib.run_convert_string_bytes (P := Try.prog) w1 9 58 5 s0 Try.underlying9 Try.underlying58 Try.underlying5
  go_wp2_with fail
  have HO := Aside0.mk (OwnM.conv w1 w.heap.size s0 HB1.out.size (by have := HS0.out; unfold maxLen; omega))
  have HB2 := Aside0.mk (bytes_below (below_trans'' HB1.out (Below.refl _ _)) HB1.out.size 5 s0)
  clear hcv
  generalize Lib.bytesWorld w1 5 s0 = w2 at HO HB2 ⊢
  generalize hv : (Value.slice (some ⟨w1.heap.size, 0, none⟩) s0.size (grownCap w1 s0.size 0 5)) = v at HO ⊢
  clear hv
  go_loopg [6, 7, 8, 9] l0.length (fun g v6 v7 v8 v9 wr => ∃ (i : Nat) (acc : List UInt8), v7 = .int .i64 (i : Int) ∧ Aside0 (i ≤ l0.length ∧ l0.length - i ≤ g) ∧ Aside0 (rnumsF k (l0.drop i) acc = some (r1, r2)) ∧ Aside0 (OwnM wr w.heap.size v6 acc) ∧ Aside0 (Below w.heap.size w wr))
  case atStart => exact ⟨0, s0.data.toList, rfl, ⟨by omega⟩, HF, HO, HB2⟩
  case round =>
    clear HF HO HB2 HN0 HS0
    obtain ⟨i, acc, rfl, HI, HT, HO, HB⟩ := hrel
    by_cases hlt : (i : Int) < (l0.length : Int)
    · have hltb := decide_eq_true hlt
      obtain ⟨ad, hA, e0⟩ := Kd.at_int HR.out (i : Int) (by omega) hlt
      subst hA
      simp only [Int.toNat_natCast] at e0
      replace e0 := (HB.out.cell (World.block_lt_of_cell? w _ e0)).trans e0
      have hT := HT.out
      rw [List.drop_eq_getElem_cons (show i < l0.length by omega)] at hT
      have hx : rd l0 (i : Int) = l0[i] := by
        unfold rd
        simp [List.getD_eq_getElem?_getD, show i < l0.length by omega]
      rw [← hx] at hT
      obtain ⟨x, hxx⟩ : ∃ x, rd l0 (i : Int) = x := ⟨_, rfl⟩
      rw [hxx] at hT e0
      unfold rnumsF at hT
      replace hT := Option.bind_eq_some_iff.mp hT
      obtain ⟨⟨s, er⟩, hN, hT⟩ := hT
      have HN := Aside0.mk hN
      clear hN hx hxx HT
      dsimp only at hT
      by_cases her : er = 0
      · rw [if_pos her] at hT
        by_cases hsz : acc.length + s.size ≤ 140737488355328
        rotate_left
        · rw [if_neg hsz] at hT; cases hT
        rw [if_pos hsz] at hT
        have HT := Aside0.mk hT
        have hneb : (er != 0) = false := by rw [her]; rfl
        have HS := Aside0.mk hsz
        clear hT hsz
        subst her
        go_wp2_with fail
        refine (ferruleref01_Num.calls k x s 0 _ HN.out).mono ?_
        rintro e w3 ⟨rfl, hb⟩
        have HB1 := Aside0.mk (below_call HB.out hb)
        have HO1 := Aside0.mk (OwnM.below HO.out hb)
        clear hb e0
        go_wp2_with (at_builtin; refine wpList_appendM rfl _ _ rfl w.heap.size _ acc rfl HO1.out s rfl HS.out HB1.out.size ?_; intro v4 w4 ho hb; have HO4 := Aside0.mk ho; have HB4 := Aside0.mk (below_trans'' HB1.out hb); clear ho hb)
        go_roundg (gk - 1)
        case measure => have := HI.out; omega
        case rel => exact ⟨i + 1, acc ++ s.data.toList, by rw [show wrap64 ((i : Int) + 1) = ((i + 1 : Nat) : Int) from by have := HL.out; simp [wrap64]; omega], ⟨by have := HI.out; omega⟩, HT, HO4, HB4⟩
      · rw [if_neg her] at hT
        simp only [Option.some.injEq, Prod.mk.injEq] at hT
        obtain ⟨rfl, rfl⟩ := hT
        have hneb : (er != 0) = true := bne_iff_ne.mpr her
        go_wp2_with fail
        refine (ferruleref01_Num.calls k x s er _ HN.out).mono ?_
        rintro e w3 ⟨rfl, hb⟩
        have HB1 := Aside0.mk (below_call HB.out hb)
        clear hb e0
        go_wp2_with fail
        go_ret2
        exact ⟨rfl, HB1.out⟩
    · have hltb := decide_eq_false hlt
      have hie : i = l0.length := by have := HI.out; omega
      have hT := HT.out
      rw [hie, List.drop_length] at hT
      unfold rnumsF at hT
      simp only [Option.some.injEq, Prod.mk.injEq] at hT
      obtain ⟨rfl, rfl⟩ := hT
      have hcv := HO.out.str
      clear HT hie
      go_wp2_with fail
      go_ret2
      exact ⟨rfl, HB.out⟩
end Go.Proofs.Ytajphdkolpkloaa.Pr
