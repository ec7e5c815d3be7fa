/- note.Compact: what it computes, and that it does. Conditions: none. -/
import Derived.Test.YtfjhlcbpogihmaaGNoteBackHandBld
import Derived.Test.YtfjhlcbpogihmaaGNoteBackHandInst
import Derived.Test.YtfjhlcbpogihmaaGNoteBackPr12
import Derived.Test.YtfjhlcbpogihmaaGNoteBackPr26
import Derived.Test.YtfjhlcbpogihmaaKNoteBack3
namespace Go.Proofs.Ytfjhlcbpogihmaa.Pr
open Go.RowKit Go.Proofs.YtfjhlcbpogihmaaW.PrintWords Go.Proofs.YtfjhlcbpogihmaaW.PrintLast Go.Proofs.YtfjhlcbpogihmaaW.PrintMore
open Go.Proofs.Ytfjhlcbpogihmaa.Hnd
attribute [local go_sem] setCell_drewN_ alloc_drewN_
set_option linter.unusedVariables false
set_option linter.unusedSimpArgs false
theorem blk_T2 {w w' : World} {g : Nat} {cs : Array Value} {t : TypeId} (h : w.heap[g]? = some (.cells cs t (0, 0))) (hk : ∀ (k : Nat) (cs : Array Value) (t : TypeId) (fz : Nat × Nat), w.heap[k]? = some (Obj.cells cs t fz) → t ≠ 94 → t ≠ 5 → w'.heap[k]? = some (Obj.cells cs t fz)) (h1 : t ≠ 94) (h2 : t ≠ 5) : w'.heap[g]? = some (.cells cs t (0, 0)) := hk g cs t _ h h1 h2
theorem R_T39 {w w' : World} {base : Nat} {v : Value} {xs : List S39} (h : Kd.R k39 39 w base (fun _ => True) v xs) (hk : ∀ (k : Nat) (cs : Array Value) (t : TypeId) (fz : Nat × Nat), w.heap[k]? = some (Obj.cells cs t fz) → t ≠ 94 → t ≠ 5 → w'.heap[k]? = some (Obj.cells cs t fz)) : Kd.R k39 39 w' base (fun _ => True) v xs :=
  Kd.R_mono (Kd.R_move (Kd.R_bound h) (fun g hg => by
    obtain ⟨_, _, _, q, hq, cells, hc⟩ := hg
    have hq' : q = 39 := by
      have e : k39.E = [] := rfl
      rw [e] at hq
      exact List.mem_singleton.1 hq
    subst hq'
    rw [hk g cells 39 (0, 0) hc (by decide) (by decide), hc])) (fun _ _ => trivial)
/-- A store of five cells into a box: the world behind it is told by its blocks. -/
theorem wpList_store5 {P : Program} {ops : Array Oper} {rest : List Oper} {o : Oper} {a : Act} {w : World} {Q : Exit → Act → World → Prop} (hgd : o.guard = none) (ty : TypeId) (d s : Operand) (ho : o.op = .store ty d s) (hdst : o.dst = none)
    (g : Nat) (hd : a.eval d = .pointer (some ⟨g, 0, none⟩)) (b0 b1 b2 b3 b4 : Value) (hs : a.eval s = .agg #[b0, b1, b2, b3, b4]) (a0 a1 a2 a3 a4 : Value) (t : TypeId) (h : w.heap[g]? = some (.cells #[a0, a1, a2, a3, a4] t (0, 0)))
    (hi : (P.info? ty).map (·.size) = some 5) (h1 : (b0.oneCell' && (b1.oneCell' && (b2.oneCell' && (b3.oneCell' && b4.oneCell')))) = true)
    (k : ∀ w', w'.heap[g]? = some (.cells #[b0, b1, b2, b3, b4] t (0, 0)) → (∀ B w0, B ≤ g → Below B w0 w → Below B w0 w') → wpList P ops Q rest a w') : wpList P ops Q (o :: rest) a w := by
  refine wpList_plain hgd fun K hK => ?_
  have hr := run_storeVar_row (P := P) w g t ty #[a0, a1, a2, a3, a4] #[b0, b1, b2, b3, b4] h hi rfl (by simpa [Bool.and_eq_true, and_assoc] using h1)
  unfold Oper.wp
  simp only [execOp, ho, hd, hs, Instr.storeAt, Instr.sureAddr, Sem.run_bind, Sem.run_pure, Result.andThen_ok, hr]
  have hk := k _ (setRow_heap w g _ _ t (0, 0) h) (fun B w0 hB hb => row_below hb hB _)
  exact hK _ _ (by rw [hdst]; exact hk)
theorem freeze_far (w : World) (p : Addr) (n k : Nat) (h : k ≠ p.block) : (w.freeze p n).heap[k]? = w.heap[k]? := by
  unfold World.freeze
  split
  · rfl
  · simp only [Array.getElem?_modify]
    rw [if_neg (fun e => h e.symm)]
set_option maxHeartbeats 2000000 in
set_option maxRecDepth 100000 in
theorem bstr_keep (B b : Nat) (l : List UInt8) (w : World) (h : Lib.IsBuilder 94 5 B b (Lib.byteCells l) w) (h0 : l ≠ []) :
    Calls Try.prog 56 #[.pointer (some ⟨b, 0, none⟩)] w fun e w' => e = .returned (.string ⟨l.toArray⟩) ∧ Below B w w' ∧ (∀ (k : Nat) (cs : Array Value) (t : TypeId) (fz : Nat × Nat), w.heap[k]? = some (Obj.cells cs t fz) → t ≠ 5 → w'.heap[k]? = some (Obj.cells cs t fz)) := by
  obtain ⟨p, hB, v, hbk, hown, hne⟩ : ∃ p, Lib.BuilderAt 94 5 B b p (Lib.byteCells l) w := by
    rcases h with h | h
    · exact ⟨_, h⟩
    · exact ⟨_, h⟩
  have hl0 : l.length ≠ 0 := by simpa using h0
  rw [Lib.byteCells_length] at hown
  obtain ⟨g, cap, cur, rfl, hbg, hg, hnc, hcm, hcs, htake⟩ : ∃ g cap cur, v = .slice (some ⟨g, 0, none⟩) l.length cap ∧ B ≤ g ∧ w.heap[g]? = some (.cells cur 5 (0, 0)) ∧ l.length ≤ cap ∧ cap ≤ maxLen ∧ cur.size = cap * 1 ∧ cur.toList.take (l.length * 1) = Lib.byteCells l := by
    rcases hown.2 with ⟨_, hz⟩ | ⟨g, cap, cur, hv, r⟩
    · exact absurd hz hl0
    · exact ⟨g, cap, cur, hv, r⟩
  have c1 : w.drew.cell? ⟨b, 1, none⟩ = some (.slice (some ⟨g, 0, none⟩) l.length cap) := by
    have : w.drew.heap[b]? = some (.cells #[p, .slice (some ⟨g, 0, none⟩) l.length cap] 94 (0, 0)) := hbk
    rw [Lib.cell_of_heap this]; rfl
  have hSD : (Builtin.unsafeSliceData_ #[81] 133 #[.slice (some ⟨g, 0, none⟩) l.length cap]).run Try.prog w.drew = .ok (.pointer (some ⟨g, 0, none⟩)) w.drew :=
    Lib.run_unsafeSliceData_row _ _ _ _ _ _ (by omega)
  have hUS : (Builtin.unsafeString_ #[133, 3] 9 #[.pointer (some ⟨g, 0, none⟩), .int .i64 l.length]).run Try.prog w.drew = .ok (.string ⟨l.toArray⟩) (w.drew.freeze ⟨g, 0, none⟩ l.length) := by
    refine Lib.run_unsafeString_row w.drew 133 3 9 5 Try.underlying133 bld_cells g cur.size (by have hg' : w.drew.heap[g]? = some (.cells cur 5 (0, 0)) := hg; simp [World.shape?, hg']) l h0 (by omega) (by unfold maxLen at hcm; omega) ?_
    intro j x hx
    have := hown.cells (g := g) rfl j (.int .u8 x.toNat) (by simp [Lib.byteCells, hx])
    exact this
  have mixed : Try.prog.follows Departure.mixedOrders = true := by kernel_rfl
  go_enter Try.func56, Try.ntmps56
  go_wp2
  go_region_o
  all_goals (go_wp2; go_ret; exact ⟨rfl, Lib.below_freeze (Below.drew (Below.refl B w)) (p := ⟨g, 0, none⟩) hbg _, fun k cs t fz hk ht => by
    have hkg : k ≠ g := fun e => by
      subst e
      rw [hg] at hk
      cases hk
      exact ht rfl
    exact (freeze_far w.drew ⟨g, 0, none⟩ _ k hkg).trans hk⟩)
/-- The notes' bytes, behind those that are there. -/
def compF (k : Nat) : List S39 → List UInt8 → Option (List UInt8)
  | [], acc => some acc
  | n :: r, acc => (note_Bytes.f k n.f0 n.f1 n.f2 n.f3 n.f4).bind fun x => if acc.length + x.1.size ≤ 140737488355328 then compF k r (acc ++ x.1.data.toList) else none
def note_Compact.f (k : Nat) (s0 s1 : ByteArray) (s2 : Int) (s3 : Bool) (a0 a1 a2 a3 : Int) (a4 : ByteArray) (l5 : List S75) : Option (ByteArray × ByteArray × Int × Bool × Int) :=
  (note_Least.f k a0 a1 a2 a3 a4 l5).bind fun r => if r.2 = 0 then (if r.1.length < 4611686018427387904 then (compF k r.1 []).bind fun acc => if acc ≠ [] then tape_Install.f s0 s1 s2 s3 ⟨acc.toArray⟩ else none else none) else some (s0, s1, s2, s3, r.2)
set_option maxHeartbeats 4000000 in
set_option maxRecDepth 100000 in
theorem note_Compact.calls (k : Nat) (s0 s1 : ByteArray) (s2 : Int) (s3 : Bool) (a0 a1 a2 a3 : Int) (a4 : ByteArray) (A5 : Option Addr) (c5 : Nat) (l5 : List S75) (r1 r2 : ByteArray) (r3 : Int) (r4 : Bool) (r5 : Int) (w : World) (hr5 : Kd.C k75 w A5 l5.length l5) (hc5 : l5.length ≤ c5)
    (h : note_Compact.f k s0 s1 s2 s3 a0 a1 a2 a3 a4 l5 = some (r1, r2, r3, r4, r5)) :
    Calls Try.prog 27 #[.agg #[.string s0, .string s1, .int .i64 s2, .bool s3], .agg #[.int .u64 a0, .int .u64 a1, .int .u64 a2, .int .u64 a3, .string a4, .slice A5 l5.length c5]] w fun e w' => e = .returned (.tuple #[.agg #[.string r1, .string r2, .int .i64 r3, .bool r4], .int .i64 r5]) ∧ Below w.heap.size w w' := by
  unfold note_Compact.f at h
  obtain ⟨⟨ns, er⟩, hL, h⟩ := Option.bind_eq_some_iff.mp h
  dsimp only at h
  have HR := Aside0.mk hr5
  have HC := Aside0.mk hc5
  have HL := Aside0.mk hL
  have T0 : (((w.alloc (.cells #[.string s0, .string s1, .int .i64 s2, .bool s3] 34)).alloc (.cells #[.int .u64 a0, .int .u64 a1, .int .u64 a2, .int .u64 a3, .string a4, .slice A5 l5.length c5] 30)).alloc (.cells #[.string ⟨#[]⟩, .string ⟨#[]⟩, .int .i64 0, .bool false] 34)).heap[w.heap.size]? = some (.cells #[.string s0, .string s1, .int .i64 s2, .bool s3] 34 (0, 0)) := blk_alloc (blk_alloc (blk_new w _) _) _
  have T1 : (((w.alloc (.cells #[.string s0, .string s1, .int .i64 s2, .bool s3] 34)).alloc (.cells #[.int .u64 a0, .int .u64 a1, .int .u64 a2, .int .u64 a3, .string a4, .slice A5 l5.length c5] 30)).alloc (.cells #[.string ⟨#[]⟩, .string ⟨#[]⟩, .int .i64 0, .bool false] 34)).heap[w.heap.size + 1 + 1]? = some (.cells #[.string ⟨#[]⟩, .string ⟨#[]⟩, .int .i64 0, .bool false] 34 (0, 0)) := blk_newAt3 _ (by simp)
  have TB : Below w.heap.size w (((w.alloc (.cells #[.string s0, .string s1, .int .i64 s2, .bool s3] 34)).alloc (.cells #[.int .u64 a0, .int .u64 a1, .int .u64 a2, .int .u64 a3, .string a4, .slice A5 l5.length c5] 30)).alloc (.cells #[.string ⟨#[]⟩, .string ⟨#[]⟩, .int .i64 0, .bool false] 34)) := below_alloc (below_alloc (below_alloc (Below.refl _ _) _) _) _
  have B0 := Aside0.mk T0
  have B1 := Aside0.mk T1
  have HB := Aside0.mk TB
  clear hr5 hc5 hL T0 T1 TB
  by_cases he : er = 0
  rotate_left
  · rw [if_neg he] at h
    simp only [Option.some.injEq, Prod.mk.injEq] at h
    obtain ⟨rfl, rfl, rfl, rfl, rfl⟩ := h
    have heb : (er != 0) = true := bne_iff_ne.mpr he
    clear he
    go_enter Try.func27, Try.ntmps27
    go_wp2_with (go_at_call 26; refine (note_Least.calls k a0 a1 a2 a3 a4 A5 c5 l5 ns er _ (Kd.C_below HR.out HB.out) HC.out HL.out).mono ?_; rintro e w1 ⟨v0, rfl, ho, hb⟩; have HB1 := Aside0.mk (below_call HB.out hb); have C0 := Aside0.mk (blk_below B0.out hb); have C1 := Aside0.mk (blk_below B1.out hb); clear hb ho; have p0 := blk_cell C0.out 0; have p1 := blk_cell C0.out 1; have p2 := blk_cell C0.out 2; have p3 := blk_cell C0.out 3; have q0 := blk_cell C1.out 0; have q1 := blk_cell C1.out 1; have q2 := blk_cell C1.out 2; have q3 := blk_cell C1.out 3; have f0 := blk_frozen C1.out 0; have f1 := blk_frozen C1.out 1; have f2 := blk_frozen C1.out 2; have f3 := blk_frozen C1.out 3)
    have hlo : w.heap.size ≤ w.heap.size + 1 + 1 := by omega
    refine bodyPost_ret (results_ct rfl _ _ (w.heap.size + 1 + 1) 34 #[.string s0, .string s1, .int .i64 s2, .bool s3] (0, 0) _ rfl (blk_put (cs' := #[.string s0, .string s1, .int .i64 s2, .bool s3]) (blk_put (cs' := #[.string s0, .string s1, .int .i64 s2, .bool false]) (blk_put (cs' := #[.string s0, .string s1, .int .i64 0, .bool false]) (blk_put (cs' := #[.string s0, .string ⟨#[]⟩, .int .i64 0, .bool false]) C1.out 0 _ rfl) 1 _ rfl) 2 _ rfl) 3 _ rfl) Try.underlying34 rfl (by kernel_rfl)) rfl ?_
    exact ⟨rfl, below_set (below_set (below_set (below_set HB1.out hlo) hlo) hlo) hlo⟩
  · rw [if_pos he] at h
    subst he
    by_cases hln : ns.length < 4611686018427387904
    rotate_left
    · rw [if_neg hln] at h; cases h
    rw [if_pos hln] at h
    obtain ⟨acc9, hF, h⟩ := Option.bind_eq_some_iff.mp h
    by_cases hne : acc9 ≠ []
    rotate_left
    · rw [if_neg hne] at h; cases h
    rw [if_pos hne] at h
    have HF := Aside0.mk hF
    have HNE := Aside0.mk hne
    have HI9 := Aside0.mk h
    clear h hF hne
    go_enter Try.func27, Try.ntmps27
    go_wp2_with (go_at_call 26; refine (note_Least.calls k a0 a1 a2 a3 a4 A5 c5 l5 ns 0 _ (Kd.C_below HR.out HB.out) HC.out HL.out).mono ?_; rintro e w1 ⟨v0, rfl, ho, hb⟩; have HB1 := Aside0.mk (below_call HB.out hb); have C0 := Aside0.mk (blk_below B0.out hb); have C1 := Aside0.mk (blk_below B1.out hb); obtain ⟨A6, c6, rfl⟩ := Kd.R_slice ho; have HN := Aside0.mk (Kd.R_lower ho HB.out.size); clear hb ho)
    have HLE := HB1.out.size
    have D3 := Aside0.mk (show Lib.IsBuilder 94 5 w.heap.size w1.heap.size (Lib.byteCells []) (w1.alloc (.cells #[.pointer none, .slice none 0 0] 94)) from .inl ⟨HLE, _, blk_new w1 _, World.ownsRow_nil _ _ _ _, by simp [Value.ownBlock]⟩)
    have C02 := Aside0.mk (blk_alloc C0.out (.cells #[.pointer none, .slice none 0 0] 94))
    have C12 := Aside0.mk (blk_alloc C1.out (.cells #[.pointer none, .slice none 0 0] 94))
    have HB2 := Aside0.mk (below_alloc HB1.out (.cells #[.pointer none, .slice none 0 0] 94))
    go_loopg [10, 11, 12, 24] ns.length (fun g v10 v11 v12 v24 wr => ∃ (i : Nat) (acc : List UInt8), v24 = .int .i64 (i : Int) ∧ Aside0 (i ≤ ns.length ∧ ns.length - i ≤ g) ∧ Aside0 (compF k (ns.drop i) acc = some acc9) ∧ Aside0 (Lib.IsBuilder 94 5 w.heap.size w1.heap.size (Lib.byteCells acc) wr) ∧ Aside0 (Kd.R k39 39 wr w.heap.size (fun _ => True) (.slice A6 ns.length c6) ns) ∧ Aside0 (wr.heap[w.heap.size]? = some (.cells #[.string s0, .string s1, .int .i64 s2, .bool s3] 34 (0, 0))) ∧ Aside0 (wr.heap[w.heap.size + 1 + 1]? = some (.cells #[.string ⟨#[]⟩, .string ⟨#[]⟩, .int .i64 0, .bool false] 34 (0, 0))) ∧ Aside0 (Below w.heap.size w wr))
    case atStart => exact ⟨0, [], rfl, ⟨by omega⟩, ⟨by rw [List.drop_zero]; exact HF.out⟩, D3, ⟨Kd.R_below HN.out (below_alloc (Below.refl w1.heap.size w1) _)⟩, C02, C12, HB2⟩
    case round =>
      clear D3 C02 C12 HB2 HF
      obtain ⟨i, acc, rfl, HI, HT, DD, HNS, K0, K1, HH⟩ := hrel
      by_cases hlt : (i : Int) < ns.length
      · have hltb := decide_eq_true hlt
        obtain ⟨ad, hA, e0, e1, e2, e3, e4⟩ := at_T39 (Kd.R_reads' HNS.out).2.2 (i : Int) (by omega) hlt
        subst hA
        simp only [Int.toNat_natCast] at e0 e1 e2 e3 e4
        have hT := HT.out
        rw [List.drop_eq_getElem_cons (show i < ns.length by omega)] at hT
        have hx : rd_T39 ns (i : Int) = ns[i] := by simp [rd_T39, List.getD_eq_getElem?_getD, show i < ns.length by omega]
        rw [← hx] at hT
        generalize rd_T39 ns (i : Int) = x at e0 e1 e2 e3 e4 hT
        clear hx HT
        unfold compF at hT
        obtain ⟨⟨xb, xe⟩, hX, hT⟩ := Option.bind_eq_some_iff.mp hT
        dsimp only at hT
        by_cases hsz : acc.length + xb.size ≤ 140737488355328
        rotate_left
        · rw [if_neg hsz] at hT; cases hT
        rw [if_pos hsz] at hT
        have HT2 := Aside0.mk hT
        clear hT
        obtain ⟨x0, x1, x2, x3, x4⟩ := x
        dsimp only at e0 e1 e2 e3 e4 hX
        have HX := Aside0.mk hX
        have HS := Aside0.mk hsz
        clear hX hsz
        go_wp2_with (first | (refine wpList_store5 rfl 39 (.tmp 10) (.tmp 27) rfl rfl wr.heap.size rfl _ _ _ _ _ rfl _ _ _ _ _ 39 (blk_new wr _) (by kernel_rfl) rfl ?_; intro w2 hn hbel; have hb2 := hbel _ _ (Nat.le_refl _) (below_alloc (Below.refl wr.heap.size wr) _); have D2 := Aside0.mk (bld_below DD.out hb2); have N2 := Aside0.mk (Kd.R_below HNS.out hb2); have K02 := Aside0.mk (blk_below K0.out hb2); have K12 := Aside0.mk (blk_below K1.out hb2); have H2 := Aside0.mk (below_call HH.out hb2); have d0 := blk_cell hn 0; have d1 := blk_cell hn 1; have d2 := blk_cell hn 2; have d3 := blk_cell hn 3; have d4 := blk_cell hn 4; clear hn hbel hb2 DD HNS K0 K1 HH e0 e1 e2 e3 e4) | (go_at_call 18; refine (note_Bytes.calls k x0 x1 x2 x3 x4 xb xe _ HX.out).mono ?_; rintro e wa ⟨rfl, hb⟩; have DA := Aside0.mk (bld_below D2.out hb); have NA := Aside0.mk (Kd.R_below N2.out hb); have K0A := Aside0.mk (blk_below K02.out hb); have K1A := Aside0.mk (blk_below K12.out hb); have HA := Aside0.mk (below_call H2.out hb); clear hb d0 d1 d2 d3 d4 D2 N2 K02 K12 H2) | (go_at_call 55; refine (bws w.heap.size w1.heap.size (Lib.byteCells acc) xb _ DA.out (by rw [Lib.byteCells_length]; exact HS.out) HA.out.size).mono ?_; rintro e wc ⟨rfl, hd, hb, hk⟩; have DC := Aside0.mk (show Lib.IsBuilder 94 5 w.heap.size w1.heap.size (Lib.byteCells (acc ++ xb.data.toList)) wc from .inr (by rw [← strCells_of]; exact hd)); have NC := Aside0.mk (R_T39 NA.out hk); have K0C := Aside0.mk (blk_T2 K0A.out hk (by decide) (by decide)); have K1C := Aside0.mk (blk_T2 K1A.out hk (by decide) (by decide)); have HC_ := Aside0.mk (HA.out.trans hb); clear hd hb hk DA NA K0A K1A HA))
        go_roundg (gk - 1)
        case measure => have := HI.out; omega
        case rel => exact ⟨i + 1, acc ++ xb.data.toList, rfl, ⟨by have := HI.out; omega⟩, HT2, DC, NC, K0C, K1C, HC_⟩
      · have hltb := decide_eq_false hlt
        have hie : i = ns.length := by have := HI.out; omega
        have hT := HT.out
        rw [hie, List.drop_length] at hT
        unfold compF at hT
        obtain rfl := Option.some.inj hT
        clear hT HT
        have p0 := blk_cell K0.out 0
        have p1 := blk_cell K0.out 1
        have p2 := blk_cell K0.out 2
        have p3 := blk_cell K0.out 3
        have hlo : w.heap.size ≤ w.heap.size + 1 + 1 := by omega
        go_wp2_with fail
        go_region_with (first | (go_at_call 56; refine (bstr_keep w.heap.size w1.heap.size acc _ (bld_below DD.out ?hbd) HNE.out).mono ?_; (case hbd => first | exact below_drew1 (Below.refl _ _) | exact pw_below_drewN (Below.refl _ _) _ | exact Below.refl _ _); rintro e wa ⟨rfl, hb, hk⟩; have G0 := Aside0.mk (hk _ _ _ _ K0.out (by decide)); have G1 := Aside0.mk (hk _ _ _ _ K1.out (by decide)); have HA := Aside0.mk ((below_drew1 HH.out).trans hb); clear hb hk; have m0 := blk_cell G0.out 0; have m1 := blk_cell G0.out 1; have m2 := blk_cell G0.out 2; have m3 := blk_cell G0.out 3) | (go_at_call 50; refine (tape_Install.calls s0 s1 s2 s3 ⟨acc.toArray⟩ r1 r2 r3 r4 r5 _ HI9.out).mono ?_; rintro e wb ⟨rfl, hb⟩; have G1b := Aside0.mk (blk_below G1.out hb); have HBb := Aside0.mk (below_call HA.out hb); clear hb; have n0 := blk_cell G1b.out 0; have n1 := blk_cell G1b.out 1; have n2 := blk_cell G1b.out 2; have n3 := blk_cell G1b.out 3; have f0 := blk_frozen G1b.out 0; have f1 := blk_frozen G1b.out 1; have f2 := blk_frozen G1b.out 2; have f3 := blk_frozen G1b.out 3))
        all_goals go_wp2
        all_goals refine bodyPost_ret (results_ct rfl _ _ (w.heap.size + 1 + 1) 34 #[.string r1, .string r2, .int .i64 r3, .bool r4] (0, 0) _ rfl (blk_put (cs' := #[.string r1, .string r2, .int .i64 r3, .bool r4]) (blk_put (cs' := #[.string r1, .string r2, .int .i64 r3, .bool false]) (blk_put (cs' := #[.string r1, .string r2, .int .i64 0, .bool false]) (blk_put (cs' := #[.string r1, .string ⟨#[]⟩, .int .i64 0, .bool false]) G1b.out 0 _ rfl) 1 _ rfl) 2 _ rfl) 3 _ rfl) Try.underlying34 rfl (by kernel_rfl)) rfl ?_
        all_goals exact ⟨rfl, below_set (below_set (below_set (below_set HBb.out hlo) hlo) hlo) hlo⟩
end Go.Proofs.Ytfjhlcbpogihmaa.Pr
