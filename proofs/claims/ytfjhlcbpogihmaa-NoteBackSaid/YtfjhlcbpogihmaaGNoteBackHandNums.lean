/- pack.Nums: what it computes, and that it does. Conditions: none. -/
import Derived.Test.YtfjhlcbpogihmaaGNoteBackHandNum
import Derived.Test.YtfjhlcbpogihmaaGNoteBackHandBld
namespace Go.Proofs.Ytfjhlcbpogihmaa.Pr
open Go.RowKit Go.Proofs.YtfjhlcbpogihmaaW.PrintWords Go.Proofs.YtfjhlcbpogihmaaW.PrintLast Go.Proofs.YtfjhlcbpogihmaaW.PrintMore
open Go.Proofs.Ytfjhlcbpogihmaa.Hnd
attribute [local go_sem] setCell_drewN_ alloc_drewN_
set_option linter.unusedVariables false
set_option linter.unusedSimpArgs false
/-- The bytes of numbers, behind those that are there. -/
def numsF : List Int → List UInt8 → Option (ByteArray × Int)
  | [], acc => some (⟨acc.toArray⟩, 0)
  | v :: r, acc => (pack_Num.f v).bind fun b => if b.2 = 0 then (if acc.length + b.1.size ≤ 140737488355328 then numsF r (acc ++ b.1.data.toList) else none) else some ((⟨#[]⟩ : ByteArray), b.2)
def pack_Nums.f (l0 : List Int) : Option (ByteArray × Int) := if l0.length ≤ 1048576 then numsF ((l0.length : Int) :: l0) [] else none
theorem infoU8 : (Try.prog.info? 25).map (fun i => (i.zero, i.size, i.bytes)) = some (some (.int .u64 0), 1, 8) := by kernel_rfl
theorem R_keepT {w w' : World} {base : Nat} {ok : Nat → Prop} {v : Value} {xs : List Int} (h : Kd.R (Kd.int .u64) 25 w base ok v xs)
    (hk : ∀ (k : Nat) (cs : Array Value) (t : TypeId) (fz : Nat × Nat), w.heap[k]? = some (Obj.cells cs t fz) → t ≠ 94 → t ≠ 5 → w'.heap[k]? = some (Obj.cells cs t fz)) : Kd.R (Kd.int .u64) 25 w' base ok v xs := by
  refine Kd.R_mono (Kd.R_move (Kd.R_bound h) (fun k hk' => ?_)) (fun _ h => h.1)
  obtain ⟨_, _, _, q, hq, cs, hc⟩ := hk'
  have hq : q = 25 := by
    rcases List.mem_cons.1 hq with h | h
    · exact h
    · exact absurd h (by simp [Kd.int, Kd.scalar])
  subst hq
  rw [hc]
  exact hk k cs _ _ hc (by decide) (by decide)
theorem strCells_of (acc : List UInt8) (s : ByteArray) : Lib.byteCells acc ++ Lib.strCells s = Lib.byteCells (acc ++ s.data.toList) := by
  rw [Lib.strCells_eq]
  simp [Lib.byteCells]
theorem bld_below {B b : Nat} {bs : List Value} {w w' : World} (h : Lib.IsBuilder 94 5 B b bs w) (hb : Below w.heap.size w w') : Lib.IsBuilder 94 5 B b bs w' := by
  have one : ∀ p, Lib.BuilderAt 94 5 B b p bs w → Lib.BuilderAt 94 5 B b p bs w' := by
    rintro p ⟨h1, v, h2, h3, h4⟩
    refine ⟨h1, v, blk_below h2 hb, ⟨h3.1, ?_⟩, h4⟩
    rcases h3.2 with h | ⟨g, cap, cur, e, hg1, hg2, r⟩
    · exact .inl h
    · exact .inr ⟨g, cap, cur, e, hg1, blk_below hg2 hb, r⟩
  exact h.imp (one _) (one _)
theorem below_trans' {w w1 w2 : World} (h : Below w.heap.size w w1) (h2 : Below w.heap.size w1 w2) : Below w.heap.size w w2 := h.trans h2
set_option maxHeartbeats 4000000 in
set_option maxRecDepth 100000 in
theorem pack_Nums.calls (A0 : Option Addr) (c0 : Nat) (l0 : List Int) (r1 : ByteArray) (r2 : Int) (w : World) (hr0 : Kd.C (Kd.int .u64) w A0 l0.length l0) (hc0 : l0.length ≤ c0) (h : pack_Nums.f l0 = some (r1, r2)) :
    Calls Try.prog 46 #[.slice A0 l0.length c0] w fun e w' => e = .returned (.tuple #[.string r1, .int .i64 r2]) ∧ Below w.heap.size w w' := by
  unfold pack_Nums.f at h
  by_cases hl : l0.length ≤ 1048576
  rotate_left
  · rw [if_neg hl] at h; cases h
  rw [if_pos hl] at h
  have HR := Aside0.mk hr0
  have HL := Aside0.mk hl
  have HF := Aside0.mk h
  have hwl : IntKind.u64.wrap (l0.length : Int) = (l0.length : Int) := by simp [IntKind.wrap, IntKind.signed, IntKind.bits]; omega
  obtain ⟨L, hL⟩ : ∃ L, [(l0.length : Int)] ++ l0 = L := ⟨_, rfl⟩
  have HF := Aside0.mk (show numsF L [] = some (r1, r2) by rw [← hL]; exact HF.out)
  have HLL := Aside0.mk (show L.length ≤ 1048577 by rw [← hL, List.length_append, List.length_singleton]; omega)
  have HE := Aside0.mk hL
  have BK0 := Aside0.mk (blk_new w (.cells #[.pointer none, .slice none 0 0] 94))
  have HR1 := Aside0.mk (Kd.C_alloc HR.out (.cells #[.pointer none, .slice none 0 0] 94))
  have HB0 := Aside0.mk (below_alloc (Below.refl w.heap.size w) (.cells #[.pointer none, .slice none 0 0] 94))
  clear hr0 hc0 hl h hL HR
  go_enter Try.func46, Try.ntmps46
  go_wp2_with (first
    | ((with_reducible refine gate_dst (N := 12) rfl ?_); refine Kd.R_lit (Kd.int .u64) (w0 := w) w.heap.size 25 ?hg (N := 12) ?hd (xs := ([(l0.length : Int)] : List Int)) (inner := [.int .u64 (l0.length : Int)]) (ok := fun k => k ≠ w.heap.size) (okp := fun k => k ≠ w.heap.size) ?hr ?hp (fun _ hk => hk) ?hf HB0.out HB0.out.size (by simp) ?_; (case hd => rfl); (case hg => rfl); (case hr => first | (go_simp; done) | (go_simp; rfl)); (case hp => exact (Reps.one (show Kd.M (Kd.int .u64) _ _ _ (l0.length : Int) [.int .u64 (l0.length : Int)] from rfl) (Reps.none _ _))); (case hf => rw [World.size_alloc]; omega); intro v1 w1 ho hb hg_ hnew_; have HO := Aside0.mk ho; have HB1 := Aside0.mk hb; have HR2 := Aside0.mk (Kd.C_below HR1.out (Below.grown (Below.refl _ _) hg_ (Nat.le_refl _) (fun k hk => by cases hk))); have BK1 := Aside0.mk ((hg_.block w.heap.size (by rw [World.size_alloc]; omega) (by simp)).trans BK0.out); have HN1 := Aside0.mk hnew_; clear ho hb hg_ hnew_)
    | ((with_reducible refine gate_builtin (b := .append) (xs := #[.tmp 12, .tmp 13]) rfl ?_); (try (refine gate_guard (by rfl) ?_; dsimp only)); at_builtin; refine Kd.R_append_rows (Kd.int .u64) (w0 := w) w.heap.size rfl (.tmp 12) (.tmp 13) 79 25 (.int .u64 0) 8 rfl Try.underlying79 infoU8 rfl (by decide) (by omega) _ ([(l0.length : Int)] : List Int) l0 _ _ _ (fun k => k ≠ w.heap.size) (fun _ => False) rfl rfl ?aO ?aR (fun _ _ h => h) (fun _ h => h.elim) ?aF ?aB ?aS ?aL ?_; (case aR => exact HR2.out); (case aF => exact fun k hk => by have := blk_lt BK1.out; omega); (case aB => exact HB1.out); (case aO => exact HO.out); (case aS => exact HB1.out.size); (case aL => have := HL.out; simp only [List.length_singleton]; omega); intro v2 w2 ho hb hg hat; rw [HE.out] at ho; obtain ⟨A2, c2, rfl⟩ := Kd.R_slice ho; have HO2 := Aside0.mk ho; have HB2 := Aside0.mk hb; have BK2 := Aside0.mk ((hg.block w.heap.size (blk_lt BK1.out) (show some w.heap.size ≠ v1.ownBlock from by obtain ⟨b', hb1, hb2⟩ := HN1.out; rw [hb1]; rw [World.size_alloc] at hb2; intro e; injection e with e; omega)).trans BK1.out); clear ho hb hg hat))
  have HBD := Aside0.mk (show Lib.IsBuilder 94 5 w.heap.size w.heap.size (Lib.byteCells []) w2 from .inl ⟨Nat.le_refl _, _, BK2.out, World.ownsRow_nil _ _ _ _, by simp [Value.ownBlock]⟩)
  clear HO HB1 HR2 BK1 HN1 BK0 HR1 HB0 BK2 HE
  go_loopg [6, 7, 8, 16] L.length (fun g v6 v7 v8 v16 wr => ∃ (i : Nat) (acc : List UInt8), v16 = .int .i64 (i : Int) ∧ Aside0 (i ≤ L.length ∧ L.length - i ≤ g) ∧ Aside0 (numsF (L.drop i) acc = some (r1, r2)) ∧ Aside0 (Kd.R (Kd.int .u64) 25 wr w.heap.size (fun k => k ≠ w.heap.size) (.slice A2 L.length c2) L) ∧ Aside0 (Lib.IsBuilder 94 5 w.heap.size w.heap.size (Lib.byteCells acc) wr) ∧ Aside0 (Below w.heap.size w wr))
  case atStart => exact ⟨0, [], rfl, ⟨by omega⟩, HF, HO2, HBD, HB2⟩
  case round =>
    clear HF HO2 HBD HB2
    obtain ⟨i, acc, rfl, HI, HT, HO, HD, HB⟩ := hrel
    by_cases hlt : (i : Int) < (L.length : Int)
    · have hltb := decide_eq_true hlt
      obtain ⟨ad, hA, e0⟩ := Kd.at_int (Kd.R_reads' HO.out).2.2 (i : Int) (by omega) hlt
      subst hA
      simp only [Int.toNat_natCast] at e0
      have hT := HT.out
      rw [List.drop_eq_getElem_cons (show i < L.length by omega)] at hT
      have hx : rd L (i : Int) = L[i] := by
        unfold rd
        simp [List.getD_eq_getElem?_getD, show i < L.length by omega]
      rw [← hx] at hT
      obtain ⟨x, hxx⟩ : ∃ x, rd L (i : Int) = x := ⟨_, rfl⟩
      rw [hxx] at hT e0
      unfold numsF at hT
      replace hT := Option.bind_eq_some_iff.mp hT
      obtain ⟨⟨s, er⟩, hN, hT⟩ := hT
      have HN := Aside0.mk hN
      clear hN hx hxx HT
      dsimp only at hT
      by_cases her : er = 0
      · rw [if_pos her] at hT
        by_cases hsz : acc.length + s.size ≤ 140737488355328
        rotate_left
        · rw [if_neg hsz] at hT; cases hT
        rw [if_pos hsz] at hT
        have HT := Aside0.mk hT
        have hneb : (er != 0) = false := by rw [her]; rfl
        have HS := Aside0.mk hsz
        clear hT hsz
        subst her
        go_wp2_with fail
        refine (pack_Num.calls x s 0 _ HN.out).mono ?_
        rintro e w1 ⟨rfl, hb⟩
        have HB1 := Aside0.mk (below_call HB.out hb)
        have HO1 := Aside0.mk (Kd.R_below HO.out hb)
        have HD1 := Aside0.mk (bld_below HD.out hb)
        clear hb e0
        go_wp2_with fail
        refine (bws w.heap.size w.heap.size (Lib.byteCells acc) s w1 HD1.out (by rw [Lib.byteCells_length]; exact HS.out) HB1.out.size).mono ?_
        rintro e w2 ⟨rfl, hd, hb, hk⟩
        have HB2 := Aside0.mk (below_trans' HB1.out hb)
        have HO2 := Aside0.mk (R_keepT HO1.out hk)
        have HD2 := Aside0.mk (show Lib.IsBuilder 94 5 w.heap.size w.heap.size (Lib.byteCells (acc ++ s.data.toList)) w2 from .inr (by rw [← strCells_of]; exact hd))
        clear hd hb hk
        go_wp2_with fail
        go_roundg (gk - 1)
        case measure => have := HI.out; omega
        case rel => exact ⟨i + 1, acc ++ s.data.toList, by rw [show wrap64 ((i : Int) + 1) = ((i + 1 : Nat) : Int) from by have := HLL.out; simp [wrap64]; omega], ⟨by have := HI.out; omega⟩, HT, HO2, HD2, HB2⟩
      · rw [if_neg her] at hT
        simp only [Option.some.injEq, Prod.mk.injEq] at hT
        obtain ⟨rfl, rfl⟩ := hT
        have hneb : (er != 0) = true := bne_iff_ne.mpr her
        go_wp2_with fail
        refine (pack_Num.calls x s er _ HN.out).mono ?_
        rintro e w1 ⟨rfl, hb⟩
        have HB1 := Aside0.mk (below_call HB.out hb)
        clear hb e0
        go_wp2_with fail
        go_ret2
        exact ⟨rfl, HB1.out⟩
    · have hltb := decide_eq_false hlt
      have hie : i = L.length := by have := HI.out; omega
      have hT := HT.out
      rw [hie, List.drop_length] at hT
      unfold numsF at hT
      simp only [Option.some.injEq, Prod.mk.injEq] at hT
      obtain ⟨rfl, rfl⟩ := hT
      clear HT hie
      go_wp2_with fail
      refine (bstr w.heap.size w.heap.size acc _ HD.out HB.out.size).mono ?_
      rintro e w1 ⟨rfl, hb⟩
      have HB1 := Aside0.mk (below_trans' HB.out hb)
      clear hb
      go_wp2_with fail
      go_ret2
      exact ⟨rfl, HB1.out⟩
end Go.Proofs.Ytfjhlcbpogihmaa.Pr
