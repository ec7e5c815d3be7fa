/- note.Fold: what it computes, and that it does. Conditions: none. -/
import Derived.Test.YtfjhlcbpogihmaaGNoteBackHandBehind
import Derived.Test.YtfjhlcbpogihmaaKNoteBack3
import Derived.Deep.RegionLaw
import Derived.Deep.RegionWith
import Derived.Deep.RegionHeld3
namespace Go.Proofs.Ytfjhlcbpogihmaa.Pr
open Go.RowKit Go.Proofs.YtfjhlcbpogihmaaW.PrintWords Go.Proofs.YtfjhlcbpogihmaaW.PrintLast Go.Proofs.YtfjhlcbpogihmaaW.PrintMore
open Go.Proofs.Ytfjhlcbpogihmaa.Hnd
attribute [local go_sem] setCell_drewN_ alloc_drewN_ max2_int min2_int max_two min_two
set_option linter.unusedVariables false
set_option linter.unusedSimpArgs false
def note_Fold.f (l0 : List S39) : Option (Int × Int × Int × Int × ByteArray × List S75) := if l0.all okN = true ∧ l0.length ≤ 4611686018427387904 then some (foldN l0).tup else none
def stCells (s : NSt) (A : Option Addr) (c : Nat) : Array Value := #[.int .u64 s.term, .int .u64 s.vote, .int .u64 s.base, .int .u64 s.bt, .string s.snap, .slice A s.es.length c]
theorem cell_bel {W W' : World} {a : Addr} {v : Value} (h : W.cell? a = some v) (hb : Below W.heap.size W W') : W'.cell? a = some v := (hb.cell (World.block_lt_of_cell? W _ h)).trans h
theorem blk6 {w : World} {g : Nat} {t : TypeId} {a0 a1 a2 a3 a4 a5 : Value} (h : w.heap[g]? = some (.cells #[a0, a1, a2, a3, a4, a5] t (0, 0))) (b0 b1 b2 b3 b4 b5 : Value) : ((((((w.setCell ⟨g, 0, none⟩ b0).setCell ⟨g, 1, none⟩ b1).setCell ⟨g, 2, none⟩ b2).setCell ⟨g, 3, none⟩ b3).setCell ⟨g, 4, none⟩ b4).setCell ⟨g, 5, none⟩ b5).heap[g]? = some (.cells #[b0, b1, b2, b3, b4, b5] t (0, 0)) := by
 have h0 := blk_put (cs' := #[b0, a1, a2, a3, a4, a5]) h 0 b0 rfl
 have h1 := blk_put (cs' := #[b0, b1, a2, a3, a4, a5]) h0 1 b1 rfl
 have h2 := blk_put (cs' := #[b0, b1, b2, a3, a4, a5]) h1 2 b2 rfl
 have h3 := blk_put (cs' := #[b0, b1, b2, b3, a4, a5]) h2 3 b3 rfl
 have h4 := blk_put (cs' := #[b0, b1, b2, b3, b4, a5]) h3 4 b4 rfl
 exact blk_put (cs' := #[b0, b1, b2, b3, b4, b5]) h4 5 b5 rfl
theorem below6 {w W : World} {g : Nat} (h : Below w.heap.size w W) (hg : w.heap.size ≤ g) (b0 b1 b2 b3 b4 b5 : Value) : Below w.heap.size w ((((((W.setCell ⟨g, 0, none⟩ b0).setCell ⟨g, 1, none⟩ b1).setCell ⟨g, 2, none⟩ b2).setCell ⟨g, 3, none⟩ b3).setCell ⟨g, 4, none⟩ b4).setCell ⟨g, 5, none⟩ b5) := below_set (below_set (below_set (below_set (below_set (below_set h hg) hg) hg) hg) hg) hg
theorem r6 {w : World} {g base : Nat} {t : TypeId} {a0 a1 a2 a3 a4 a5 : Value} {ok : Nat → Prop} {v : Value} {xs : List S75} (hr : Kd.R k75 75 w base ok v xs) (h : w.heap[g]? = some (.cells #[a0, a1, a2, a3, a4, a5] t (0, 0))) (ht : ∀ q, q ∈ 75 :: k75.E → q ≠ t) (b0 b1 b2 b3 b4 b5 : Value) : Kd.R k75 75 ((((((w.setCell ⟨g, 0, none⟩ b0).setCell ⟨g, 1, none⟩ b1).setCell ⟨g, 2, none⟩ b2).setCell ⟨g, 3, none⟩ b3).setCell ⟨g, 4, none⟩ b4).setCell ⟨g, 5, none⟩ b5) base ok v xs := by
 have h0 := blk_put (cs' := #[b0, a1, a2, a3, a4, a5]) h 0 b0 rfl
 have h1 := blk_put (cs' := #[b0, b1, a2, a3, a4, a5]) h0 1 b1 rfl
 have h2 := blk_put (cs' := #[b0, b1, b2, a3, a4, a5]) h1 2 b2 rfl
 have h3 := blk_put (cs' := #[b0, b1, b2, b3, a4, a5]) h2 3 b3 rfl
 have h4 := blk_put (cs' := #[b0, b1, b2, b3, b4, a5]) h3 4 b4 rfl
 exact (Kd.R_set (Kd.R_set (Kd.R_set (Kd.R_set (Kd.R_set (Kd.R_set hr h ht 0 b0) h0 ht 1 b1) h1 ht 2 b2) h2 ht 3 b3) h3 ht 4 b4) h4 ht 5 b5)
theorem nkeep {q g : Nat} {n1 base bt : Int} {snap : ByteArray} {S : Value} {W0 W W' : World} (h : W.cell? ⟨q, 1, none⟩ = some (.int .u64 n1) ∧ W.cell? ⟨g, 2, none⟩ = some (.int .u64 base) ∧ W.cell? ⟨g, 3, none⟩ = some (.int .u64 bt) ∧ W.cell? ⟨g, 4, none⟩ = some (.string snap) ∧ W.cell? ⟨g, 5, none⟩ = some S ∧ Below W0.heap.size W0 W) (hb : Below W.heap.size W W') :
  W'.cell? ⟨q, 1, none⟩ = some (.int .u64 n1) ∧ W'.cell? ⟨g, 2, none⟩ = some (.int .u64 base) ∧ W'.cell? ⟨g, 3, none⟩ = some (.int .u64 bt) ∧ W'.cell? ⟨g, 4, none⟩ = some (.string snap) ∧ W'.cell? ⟨g, 5, none⟩ = some S ∧ Below W0.heap.size W0 W' :=
 ⟨cell_bel h.1 hb, cell_bel h.2.1 hb, cell_bel h.2.2.1 hb, cell_bel h.2.2.2.1 hb, cell_bel h.2.2.2.2.1 hb, below_call h.2.2.2.2.2 hb⟩
theorem nbel {q g : Nat} {n1 base bt : Int} {snap : ByteArray} {S : Value} {W0 W : World} (h : W.cell? ⟨q, 1, none⟩ = some (.int .u64 n1) ∧ W.cell? ⟨g, 2, none⟩ = some (.int .u64 base) ∧ W.cell? ⟨g, 3, none⟩ = some (.int .u64 bt) ∧ W.cell? ⟨g, 4, none⟩ = some (.string snap) ∧ W.cell? ⟨g, 5, none⟩ = some S ∧ Below W0.heap.size W0 W) : Below W0.heap.size W0 W := h.2.2.2.2.2
set_option maxHeartbeats 4000000 in
set_option maxRecDepth 100000 in
theorem note_Fold.calls (A0 : Option Addr) (c0 : Nat) (l0 : List S39) (r1 r2 r3 r4 : Int) (r5 : ByteArray) (r6 : List S75) (w : World) (hr0 : Kd.C k39 w A0 l0.length l0) (hc0 : l0.length ≤ c0) (h : note_Fold.f l0 = some (r1, r2, r3, r4, r5, r6)) :
  Calls Try.prog 16 #[.slice A0 l0.length c0] w fun e w' => ∃ v5_ : Value, e = .returned (.agg #[.int .u64 r1, .int .u64 r2, .int .u64 r3, .int .u64 r4, .string r5, v5_]) ∧ Kd.R k75 75 w' w.heap.size (fun _ => True) v5_ r6 ∧ Below w.heap.size w w' := by
 unfold note_Fold.f at h
 by_cases hok : l0.all okN = true ∧ l0.length ≤ 4611686018427387904
 rotate_left
 ·rw [if_neg hok] at h; cases h
 rw [if_pos hok] at h
 have HH := Aside0.mk (Option.some.inj h)
 have HA := Aside0.mk hok.1
 have HL := Aside0.mk hok.2
 have HR := Aside0.mk hr0
 clear h hok hr0
 go_enter Try.func16, Try.ntmps16
 go_wp2_with fail
 have b2 := blk_alloc (blk_new w (.cells #[.int .u64 0, .int .u64 0, .int .u64 0, .int .u64 0, .string ⟨#[]⟩, .slice none 0 0] 30)) (.cells #[.int .u64 0, .int .u64 0, .int .u64 0, .int .u64 0, .string ⟨#[]⟩, .slice none 0 0] 30)
 have b3 := blk_new (w.alloc (.cells #[.int .u64 0, .int .u64 0, .int .u64 0, .int .u64 0, .string ⟨#[]⟩, .slice none 0 0] 30)) (.cells #[.int .u64 0, .int .u64 0, .int .u64 0, .int .u64 0, .string ⟨#[]⟩, .slice none 0 0] 30)
 simp only [World.size_alloc] at b3
 have HB := Aside0.mk (below_alloc (below_alloc (Below.refl w.heap.size w) (.cells #[.int .u64 0, .int .u64 0, .int .u64 0, .int .u64 0, .string ⟨#[]⟩, .slice none 0 0] 30)) (.cells #[.int .u64 0, .int .u64 0, .int .u64 0, .int .u64 0, .string ⟨#[]⟩, .slice none 0 0] 30))
 have B2 := Aside0.mk b2
 have B3 := Aside0.mk b3
 clear b2 b3
 go_loopg [11] l0.length (fun g v11 wr => ∃ (i : Nat) (s : NSt) (A : Option Addr) (c : Nat), v11 = .int .i64 (i : Int) ∧ Aside0 (i ≤ l0.length ∧ l0.length - i ≤ g) ∧ Aside0 (okS s) ∧ Aside0 ((l0.drop i).foldl stepN s = foldN l0) ∧ Aside0 (wr.heap[w.heap.size + 1]? = some (.cells (stCells s A c) 30 (0, 0))) ∧ Aside0 (wr.heap[w.heap.size]? = some (.cells #[.int .u64 0, .int .u64 0, .int .u64 0, .int .u64 0, .string ⟨#[]⟩, .slice none 0 0] 30 (0, 0))) ∧ Aside0 (Kd.R k75 75 wr w.heap.size (fun _ => True) (.slice A s.es.length c) s.es) ∧ Aside0 (Below w.heap.size w wr))
 case atStart => exact ⟨0, nst0, none, 0, rfl, ⟨by omega⟩, ⟨okS_0⟩, ⟨rfl⟩, B3, B2, ⟨Kd.R_nil _ _ _ _ _⟩, HB⟩
 case round =>
  clear B2 B3 HB
  obtain ⟨i, s, A, c, rfl, HI, HS, HT, B3, B2, HO, HB⟩ := hrel
  by_cases hlt : (i : Int) < (l0.length : Int)
  ·have hltb := decide_eq_true hlt
   have HWI := Aside0.mk (show wrap64 ((i : Int) + 1) = ((i + 1 : Nat) : Int) by have := HL.out; have := HI.out; simp [wrap64]; omega)
   obtain ⟨ad, hA, e0, e1, e2, e3, e4⟩ := at_T39 (Kd.C_below HR.out HB.out) (i : Int) (by omega) hlt
   subst hA
   have hn : l0.drop i = rd_T39 l0 (i : Int) :: l0.drop (i + 1) := by
    rw [List.drop_eq_getElem_cons (show i < l0.length by omega)]
    simp [rd_T39, List.getD_eq_getElem?_getD, show i < l0.length by omega]
   have hT := HT.out
   rw [hn, List.foldl_cons] at hT
   have hin : okN (rd_T39 l0 (i : Int)) = true := List.all_eq_true.1 HA.out _ (by
    have : rd_T39 l0 (i : Int) ∈ l0.drop i := by rw [hn]; exact List.mem_cons_self
    exact List.mem_of_mem_drop this)
   generalize rd_T39 l0 (i : Int) = n at e0 e1 e2 e3 e4 hT hin
   have HT := Aside0.mk hT
   have HN := Aside0.mk hin
   have hS2 := okS_step HS.out hin
   have p0 := eq_true (show (0 : Int) ≤ (i : Int) by omega)
   have p1 := eq_true hlt
   obtain ⟨term, vote, base, bt, snap, es⟩ := s
   obtain ⟨n0, n1, n2, n3, n4⟩ := n
   clear hn hT hin
   simp only [Int.toNat_natCast] at e0 e1 e2 e3 e4
   have b3 := B3.out
   unfold stCells at b3
   dsimp only at b3
   have B3 := Aside0.mk b3
   clear b3
   by_cases q1 : n0 = 1
   ·subst q1
    have hst : stepN ⟨term, vote, base, bt, snap, es⟩ ⟨1, n1, n2, n3, n4⟩ = ⟨n2, n3, base, bt, snap, es⟩ := if_pos rfl
    rw [hst] at hS2
    have hT2 := HT.out
    rw [hst] at hT2
    have HS2 := Aside0.mk hS2
    have HT2 := Aside0.mk hT2
    clear hS2 hT2 hst
    go_wp2_with fail
    have b3 := blk_alloc B3.out (.cells #[.int .i64 1, .int .u64 n1, .int .u64 n2, .int .u64 n3, .string n4] 39)
    have b2 := blk_alloc B2.out (.cells #[.int .i64 1, .int .u64 n1, .int .u64 n2, .int .u64 n3, .string n4] 39)
    have bn := blk_new wr (.cells #[.int .i64 1, .int .u64 n1, .int .u64 n2, .int .u64 n3, .string n4] 39)
    have hO := Kd.R_below HO.out (below_alloc (Below.refl wr.heap.size wr) (.cells #[.int .i64 1, .int .u64 n1, .int .u64 n2, .int .u64 n3, .string n4] 39))
    have HB1 := Aside0.mk (below_alloc HB.out (.cells #[.int .i64 1, .int .u64 n1, .int .u64 n2, .int .u64 n3, .string n4] 39))
    have hws := HB.out.size
    have hw1 := blk_lt B3.out
    generalize hW1 : wr.alloc (.cells #[.int .i64 1, .int .u64 n1, .int .u64 n2, .int .u64 n3, .string n4] 39) = W1 at b3 b2 bn hO HB1 ⊢
    clear hW1
    have HO1 := Aside0.mk hO
    have C3 := Aside0.mk b3
    have C2 := Aside0.mk b2
    have CN := Aside0.mk bn
    clear b3 b2 bn hO e0 e1 e2 e3 e4
    have s0 := blk_cell C3.out 0
    have s1 := blk_cell C3.out 1
    have s2 := blk_cell C3.out 2
    have s3 := blk_cell C3.out 3
    have s4 := blk_cell C3.out 4
    have s5 := blk_cell C3.out 5
    have fs0 := blk_frozen C3.out 0
    have fs1 := blk_frozen C3.out 1
    have fs2 := blk_frozen C3.out 2
    have fs3 := blk_frozen C3.out 3
    have fs4 := blk_frozen C3.out 4
    have fs5 := blk_frozen C3.out 5
    have t0 := blk_cell CN.out 0
    have t1 := blk_cell CN.out 1
    have t2 := blk_cell CN.out 2
    have t3 := blk_cell CN.out 3
    have t4 := blk_cell CN.out 4
    have zl0 := blk_lt C3.out
    have zl1 := blk_lt CN.out
    go_region
    clear s0 fs0 s1 fs1 s2 fs2 s3 fs3 s4 fs4 s5 fs5 t0 t1 t2 t3 t4 zl0 zl1
    have x0 := blk_put (cs' := #[.int .u64 n2, .int .u64 vote, .int .u64 base, .int .u64 bt, .string snap, .slice A es.length c]) C3.out 0 (.int .u64 n2) rfl
    have x1 := blk_put (cs' := #[.int .u64 n2, .int .u64 n3, .int .u64 base, .int .u64 bt, .string snap, .slice A es.length c]) x0 1 (.int .u64 n3) rfl
    have y3 := (blk_drew x1)
    have y2 := (blk_drew ((Below.heap_setCell _ ⟨w.heap.size + 1, 1, none⟩ (.int .u64 n3) w.heap.size (by show w.heap.size ≠ w.heap.size + 1; omega)).trans ((Below.heap_setCell _ ⟨w.heap.size + 1, 0, none⟩ (.int .u64 n2) w.heap.size (by show w.heap.size ≠ w.heap.size + 1; omega)).trans C2.out)))
    have yO := (Kd.R_drew (Kd.R_set (Kd.R_set HO1.out C3.out (by decide) 0 (.int .u64 n2)) x0 (by decide) 1 (.int .u64 n3)))
    have yB := (below_drew1 (Below.setCell (p := ⟨w.heap.size + 1, 1, none⟩) (Below.setCell (p := ⟨w.heap.size + 1, 0, none⟩) HB1.out (by show w.heap.size ≤ w.heap.size + 1; omega) (.int .u64 n2)) (by show w.heap.size ≤ w.heap.size + 1; omega) (.int .u64 n3)))
    generalize ((W1.setCell ⟨w.heap.size + 1, 0, none⟩ (.int .u64 n2)).setCell ⟨w.heap.size + 1, 1, none⟩ (.int .u64 n3)).drew = W2 at y3 y2 yO yB ⊢
    have D3 := Aside0.mk y3
    have D2 := Aside0.mk y2
    have DO := Aside0.mk yO
    have DB := Aside0.mk yB
    clear y3 y2 yO yB x0 x1
    go_wp2_with fail
    go_roundg (gk - 1)
    case measure => have := HI.out; omega
    case rel => exact ⟨i + 1, _, A, c, by first | rfl | rw [HWI.out], ⟨by have := HI.out; omega⟩, HS2, HT2, D3, D2, DO, DB⟩
   ·by_cases q2 : n0 = 2
    ·subst q2
     clear q1
     obtain ⟨hb0, hb1, hl1⟩ := HS.out
     dsimp only at hb0 hb1 hl1
     obtain ⟨-, hcc, hC⟩ := Kd.R_reads' HO.out
     have hCL : ∀ W, Below wr.heap.size wr W → Calls Try.prog 42 #[.agg #[.int .u64 base, .int .u64 bt, .string snap, .slice A es.length c]] W fun e w' => e = .returned (.int .u64 (base + es.length)) ∧ Below W.heap.size W w' := fun W hb =>
      note_last.calls base bt snap A c es _ W (Kd.C_below hC hb) hcc (by
       unfold note_last.f
       rw [show IntKind.u64.wrap (es.length : Int) = (es.length : Int) by simp [IntKind.wrap, IntKind.signed, IntKind.bits]; omega, show IntKind.u64.wrap (base + (es.length : Int)) = base + (es.length : Int) by simp [IntKind.wrap, IntKind.signed, IntKind.bits]; omega])
     obtain ⟨L, hL⟩ : ∃ L, base + (es.length : Int) = L := ⟨_, rfl⟩
     rw [hL] at hCL
     obtain ⟨L1, hL1⟩ : ∃ L1, L + 1 = L1 := ⟨_, rfl⟩
     have hw1 : IntKind.u64.wrap (L + 1) = L1 := by rw [← hL1]; simp [IntKind.wrap, IntKind.signed, IntKind.bits]; omega
     by_cases qa : n1 = L1
     ·by_cases qb : (es.length : Int) < 1024
      ·by_cases qc : n1 ≤ 1099511627776
       ·skip
        subst qa
        have qbb : decide ((es.length : Int) < 1024) = true := decide_eq_true qb
        have qcb : decide (n1 ≤ 1099511627776) = true := decide_eq_true qc
        have hst : stepN ⟨term, vote, base, bt, snap, es⟩ ⟨2, n1, n2, n3, n4⟩ = ⟨term, vote, base, bt, snap, es ++ [⟨n2, n4⟩]⟩ := (if_neg (show ¬ (2 : Int) = 1 by decide)).trans ((if_pos rfl).trans (if_pos (show isNext _ _ from ⟨by dsimp only; omega, by dsimp only; omega, qc⟩)))
        rw [hst] at hS2
        have hT2 := HT.out
        rw [hst] at hT2
        have HS2 := Aside0.mk hS2
        have HT2 := Aside0.mk hT2
        clear hS2 hT2 hst
        have hbb : es.length < 1024 := by omega
        have HLE := Aside0.mk hbb
        clear hbb
        clear hb0 hb1 hl1 hcc hC hL hL1
        go_wp2_with fail
        have hb0w := below_alloc (Below.refl wr.heap.size wr) (.cells #[.int .i64 2, .int .u64 n1, .int .u64 n2, .int .u64 n3, .string n4] 39)
        have b3 := blk_alloc B3.out (.cells #[.int .i64 2, .int .u64 n1, .int .u64 n2, .int .u64 n3, .string n4] 39)
        have b2 := blk_alloc B2.out (.cells #[.int .i64 2, .int .u64 n1, .int .u64 n2, .int .u64 n3, .string n4] 39)
        have bn := blk_new wr (.cells #[.int .i64 2, .int .u64 n1, .int .u64 n2, .int .u64 n3, .string n4] 39)
        have hO := Kd.R_below HO.out (below_alloc (Below.refl wr.heap.size wr) (.cells #[.int .i64 2, .int .u64 n1, .int .u64 n2, .int .u64 n3, .string n4] 39))
        have HB1 := Aside0.mk (below_alloc HB.out (.cells #[.int .i64 2, .int .u64 n1, .int .u64 n2, .int .u64 n3, .string n4] 39))
        have hws := HB.out.size
        generalize hW1 : wr.alloc (.cells #[.int .i64 2, .int .u64 n1, .int .u64 n2, .int .u64 n3, .string n4] 39) = W1 at b3 b2 bn hO HB1 hb0w ⊢
        clear hW1
        have HO1 := Aside0.mk hO
        have C3 := Aside0.mk b3
        have C2 := Aside0.mk b2
        have CN := Aside0.mk bn
        clear b3 b2 bn hO e0 e1 e2 e3 e4
        have HCL := Aside0.mk (show ∀ W, Below W1.heap.size W1 W → _ from fun W hb => hCL W (below_then hb0w hb0w.size hb))
        clear hCL hb0w
        have HSS := Aside0.mk (show W1.drew.cell? ⟨wr.heap.size, 1, none⟩ = some (.int .u64 n1) ∧ W1.drew.cell? ⟨w.heap.size + 1, 2, none⟩ = some (.int .u64 base) ∧ W1.drew.cell? ⟨w.heap.size + 1, 3, none⟩ = some (.int .u64 bt) ∧ W1.drew.cell? ⟨w.heap.size + 1, 4, none⟩ = some (.string snap) ∧ W1.drew.cell? ⟨w.heap.size + 1, 5, none⟩ = some (.slice A es.length c) ∧ Below W1.heap.size W1 W1.drew from ⟨blk_cell CN.out 1, blk_cell C3.out 2, blk_cell C3.out 3, blk_cell C3.out 4, blk_cell C3.out 5, below_drew1 (Below.refl _ _)⟩)
        refine wp_region_held_drew (S := fun W' => W'.cell? ⟨wr.heap.size, 1, none⟩ = some (.int .u64 n1) ∧ W'.cell? ⟨w.heap.size + 1, 2, none⟩ = some (.int .u64 base) ∧ W'.cell? ⟨w.heap.size + 1, 3, none⟩ = some (.int .u64 bt) ∧ W'.cell? ⟨w.heap.size + 1, 4, none⟩ = some (.string snap) ∧ W'.cell? ⟨w.heap.size + 1, 5, none⟩ = some (.slice A es.length c) ∧ Below W1.heap.size W1 W') (by kernel_rfl) HSS.out (fun hHeld => ?_)
        refine wpAnyH_take (i := 0) (oi := { dst := some 27, op := Op.fieldAddr 39 (Operand.tmp 6) 1, type := 0, pos := "note.go:91", after := #[], guard := none }) (v := .pointer (some ⟨wr.heap.size, 1, none⟩)) rfl (by kernel_rfl) (by kernel_rfl) (by kernel_rfl) (fun _ _ _ h => h) (Or.inl ⟨by rfl, ?_⟩) (by assumption) ?_
        ·intro w hSw
         try dsimp only at hSw
         go_simp
         try with_reducible rfl
        try simp only [Act.put, List.setIfInBounds_toArray, List.set_cons_zero, List.set_cons_succ]
        refine wpAnyH_take (i := 1) (oi := { dst := some 28, op := Op.load 25 (Operand.tmp 27), type := 25, pos := "note.go:91", after := #[{ on := 0, ground := Ground.data }], guard := none }) (v := .int .u64 n1) rfl (by kernel_rfl) (by kernel_rfl) (by kernel_rfl) (fun _ _ _ h => h) (Or.inl ⟨by rfl, ?_⟩) (by assumption) ?_
        ·intro w hSw
         try dsimp only at hSw
         go_simp
         try with_reducible rfl
        try simp only [Act.put, List.setIfInBounds_toArray, List.set_cons_zero, List.set_cons_succ]
        refine wpAnyH_take (i := 2) (oi := { dst := some 29, op := Op.move (Operand.tmp 4), type := 72, pos := "note.go:91", after := #[], guard := none }) (v := .pointer (some ⟨w.heap.size + 1, 2, none⟩)) rfl (by kernel_rfl) (by kernel_rfl) (by kernel_rfl) (fun _ _ _ h => h) (Or.inl ⟨by rfl, ?_⟩) (by assumption) ?_
        ·intro w hSw
         try dsimp only at hSw
         go_simp
         try with_reducible rfl
        try simp only [Act.put, List.setIfInBounds_toArray, List.set_cons_zero, List.set_cons_succ]
        refine wpAnyH_take (i := 3) (oi := { dst := some 30, op := Op.nilCheck (Operand.tmp 29), type := 0, pos := "note.go:91", after := #[{ on := 2, ground := Ground.data }], guard := none }) (v := .pointer (some ⟨w.heap.size + 1, 2, none⟩)) rfl (by kernel_rfl) (by kernel_rfl) (by kernel_rfl) (fun _ _ _ h => h) (Or.inl ⟨by rfl, ?_⟩) (by assumption) ?_
        ·intro w hSw
         try dsimp only at hSw
         go_simp
         try with_reducible rfl
        try simp only [Act.put, List.setIfInBounds_toArray, List.set_cons_zero, List.set_cons_succ]
        refine wpAnyH_take (i := 4) (oi := { dst := some 31, op := Op.load 28 (Operand.tmp 30), type := 28, pos := "note.go:91", after := #[{ on := 3, ground := Ground.data }], guard := none }) (v := .agg #[.int .u64 base, .int .u64 bt, .string snap, .slice A es.length c]) rfl (by kernel_rfl) (by kernel_rfl) (by kernel_rfl) (fun _ _ _ h => h) (Or.inl ⟨by rfl, ?_⟩) (by assumption) ?_
        ·intro w hSw
         try dsimp only at hSw
         go_simp
         try with_reducible rfl
        try simp only [Act.put, List.setIfInBounds_toArray, List.set_cons_zero, List.set_cons_succ]
        refine wpAnyH_ready (rs := [5]) (by kernel_rfl) (by simp) ?_
        refine AllReadyH.cons (o := { dst := some 32, op := Op.call { callee := Callee.value (Operand.func 42), args := #[Operand.tmp 31], argTypes := #[28] }, type := 25, pos := "note.go:91", after := #[{ on := 4, ground := Ground.data }], guard := none }) rfl (fun K hK => ?_) AllReadyH.nil
        go_simp
        refine (HCL.out _ (nbel hHeld)).mono ?_
        rintro e w2 ⟨rfl, hb⟩
        go_wp2_with fail
        refine hK.out _ _ ?_ (fun hHeld => ?_)
        ·exact nkeep hHeld hb
        clear hK K
        try simp only [Act.put, List.setIfInBounds_toArray, List.set_cons_zero, List.set_cons_succ]
        refine wpAnyH_take (i := 6) (oi := { dst := some 33, op := Op.binOp BinOp.add 25 (Operand.tmp 32) (Operand.const (Value.int IntKind.u64 1)) 25, type := 25, pos := "note.go:91", after := #[{ on := 5, ground := Ground.data }], guard := none }) (v := .int .u64 n1) rfl (by kernel_rfl) (by kernel_rfl) (by kernel_rfl) (fun _ _ _ h => h) (Or.inl ⟨by rfl, ?_⟩) (by assumption) ?_
        ·intro w hSw
         try dsimp only at hSw
         go_simp
         try with_reducible rfl
        try simp only [Act.put, List.setIfInBounds_toArray, List.set_cons_zero, List.set_cons_succ]
        refine wpAnyH_take (i := 7) (oi := { dst := some 34, op := Op.binOp BinOp.eql 25 (Operand.tmp 28) (Operand.tmp 33) 25, type := 4, pos := "note.go:91", after := #[{ on := 1, ground := Ground.data }, { on := 6, ground := Ground.data }], guard := none }) (v := .bool true) rfl (by kernel_rfl) (by kernel_rfl) (by kernel_rfl) (fun _ _ _ h => h) (Or.inl ⟨by rfl, ?_⟩) (by assumption) ?_
        ·intro w hSw
         try dsimp only at hSw
         go_simp
         try with_reducible rfl
        try simp only [Act.put, List.setIfInBounds_toArray, List.set_cons_zero, List.set_cons_succ]
        refine wpAnyH_take (i := 8) (oi := { dst := some 35, op := Op.move (Operand.tmp 34), type := 4, pos := "note.go:91", after := #[{ on := 7, ground := Ground.data }, { on := 5, ground := Ground.chain }], guard := none }) (v := .bool true) rfl (by kernel_rfl) (by kernel_rfl) (by kernel_rfl) (fun _ _ _ h => h) (Or.inl ⟨by rfl, ?_⟩) (by assumption) ?_
        ·intro w hSw
         try dsimp only at hSw
         go_simp
         try with_reducible rfl
        try simp only [Act.put, List.setIfInBounds_toArray, List.set_cons_zero, List.set_cons_succ]
        refine wpAnyH_take (i := 9) (oi := { dst := some 36, op := Op.move (Operand.tmp 4), type := 72, pos := "note.go:91", after := #[{ on := 8, ground := Ground.guard }], guard := some (8, true) }) (v := .pointer (some ⟨w.heap.size + 1, 2, none⟩)) rfl (by kernel_rfl) (by kernel_rfl) (by kernel_rfl) (fun _ _ _ h => h) (Or.inl ⟨by rfl, ?_⟩) (by assumption) ?_
        ·intro w hSw
         try dsimp only at hSw
         go_simp
         try with_reducible rfl
        try simp only [Act.put, List.setIfInBounds_toArray, List.set_cons_zero, List.set_cons_succ]
        refine wpAnyH_take (i := 10) (oi := { dst := some 37, op := Op.nilCheck (Operand.tmp 36), type := 0, pos := "note.go:91", after := #[{ on := 9, ground := Ground.data }, { on := 8, ground := Ground.guard }], guard := some (8, true) }) (v := .pointer (some ⟨w.heap.size + 1, 2, none⟩)) rfl (by kernel_rfl) (by kernel_rfl) (by kernel_rfl) (fun _ _ _ h => h) (Or.inl ⟨by rfl, ?_⟩) (by assumption) ?_
        ·intro w hSw
         try dsimp only at hSw
         go_simp
         try with_reducible rfl
        try simp only [Act.put, List.setIfInBounds_toArray, List.set_cons_zero, List.set_cons_succ]
        refine wpAnyH_take (i := 11) (oi := { dst := some 38, op := Op.fieldAddr 28 (Operand.tmp 37) 3, type := 0, pos := "note.go:91", after := #[{ on := 10, ground := Ground.data }, { on := 8, ground := Ground.guard }], guard := some (8, true) }) (v := .pointer (some ⟨w.heap.size + 1, 5, none⟩)) rfl (by kernel_rfl) (by kernel_rfl) (by kernel_rfl) (fun _ _ _ h => h) (Or.inl ⟨by rfl, ?_⟩) (by assumption) ?_
        ·intro w hSw
         try dsimp only at hSw
         go_simp
         try with_reducible rfl
        try simp only [Act.put, List.setIfInBounds_toArray, List.set_cons_zero, List.set_cons_succ]
        refine wpAnyH_take (i := 12) (oi := { dst := some 39, op := Op.load 26 (Operand.tmp 38), type := 26, pos := "note.go:91", after := #[{ on := 11, ground := Ground.data }, { on := 8, ground := Ground.guard }], guard := some (8, true) }) (v := .slice A es.length c) rfl (by kernel_rfl) (by kernel_rfl) (by kernel_rfl) (fun _ _ _ h => h) (Or.inl ⟨by rfl, ?_⟩) (by assumption) ?_
        ·intro w hSw
         try dsimp only at hSw
         go_simp
         try with_reducible rfl
        try simp only [Act.put, List.setIfInBounds_toArray, List.set_cons_zero, List.set_cons_succ]
        refine wpAnyH_take (i := 13) (oi := { dst := some 40, op := Op.call { callee := Callee.builtin Builtin.len, args := #[Operand.tmp 39], argTypes := #[26] }, type := 3, pos := "note.go:91", after := #[{ on := 12, ground := Ground.data }, { on := 8, ground := Ground.guard }], guard := some (8, true) }) (v := .int .i64 (es.length : Int)) rfl (by kernel_rfl) (by kernel_rfl) (by kernel_rfl) (fun _ _ _ h => h) (Or.inl ⟨by rfl, ?_⟩) (by assumption) ?_
        ·intro w hSw
         try dsimp only at hSw
         go_simp
         try with_reducible rfl
        try simp only [Act.put, List.setIfInBounds_toArray, List.set_cons_zero, List.set_cons_succ]
        refine wpAnyH_take (i := 14) (oi := { dst := some 41, op := Op.binOp BinOp.lss 3 (Operand.tmp 40) (Operand.const (Value.int IntKind.i64 1024)) 3, type := 4, pos := "note.go:91", after := #[{ on := 13, ground := Ground.data }, { on := 8, ground := Ground.guard }], guard := some (8, true) }) (v := .bool true) rfl (by kernel_rfl) (by kernel_rfl) (by kernel_rfl) (fun _ _ _ h => h) (Or.inl ⟨by rfl, ?_⟩) (by assumption) ?_
        ·intro w hSw
         try dsimp only at hSw
         go_simp
         try with_reducible rfl
        try simp only [Act.put, List.setIfInBounds_toArray, List.set_cons_zero, List.set_cons_succ]
        refine wpAnyH_take (i := 15) (oi := { dst := some 42, op := Op.pick (Operand.tmp 35) (Operand.tmp 41) (Operand.const (Value.bool false)), type := 4, pos := "note.go:91", after := #[{ on := 8, ground := Ground.data }, { on := 14, ground := Ground.data }], guard := none }) (v := .bool true) rfl (by kernel_rfl) (by kernel_rfl) (by kernel_rfl) (fun _ _ _ h => h) (Or.inl ⟨by rfl, ?_⟩) (by assumption) ?_
        ·intro w hSw
         try dsimp only at hSw
         go_simp
         try with_reducible rfl
        try simp only [Act.put, List.setIfInBounds_toArray, List.set_cons_zero, List.set_cons_succ]
        refine wpAnyH_take (i := 16) (oi := { dst := some 43, op := Op.move (Operand.tmp 42), type := 4, pos := "note.go:91", after := #[{ on := 15, ground := Ground.data }, { on := 8, ground := Ground.chain }], guard := none }) (v := .bool true) rfl (by kernel_rfl) (by kernel_rfl) (by kernel_rfl) (fun _ _ _ h => h) (Or.inl ⟨by rfl, ?_⟩) (by assumption) ?_
        ·intro w hSw
         try dsimp only at hSw
         go_simp
         try with_reducible rfl
        try simp only [Act.put, List.setIfInBounds_toArray, List.set_cons_zero, List.set_cons_succ]
        refine wpAnyH_take (i := 17) (oi := { dst := some 44, op := Op.fieldAddr 39 (Operand.tmp 6) 1, type := 0, pos := "note.go:91", after := #[{ on := 16, ground := Ground.guard }], guard := some (16, true) }) (v := .pointer (some ⟨wr.heap.size, 1, none⟩)) rfl (by kernel_rfl) (by kernel_rfl) (by kernel_rfl) (fun _ _ _ h => h) (Or.inl ⟨by rfl, ?_⟩) (by assumption) ?_
        ·intro w hSw
         try dsimp only at hSw
         go_simp
         try with_reducible rfl
        try simp only [Act.put, List.setIfInBounds_toArray, List.set_cons_zero, List.set_cons_succ]
        refine wpAnyH_take (i := 18) (oi := { dst := some 45, op := Op.load 25 (Operand.tmp 44), type := 25, pos := "note.go:91", after := #[{ on := 17, ground := Ground.data }, { on := 16, ground := Ground.guard }], guard := some (16, true) }) (v := .int .u64 n1) rfl (by kernel_rfl) (by kernel_rfl) (by kernel_rfl) (fun _ _ _ h => h) (Or.inl ⟨by rfl, ?_⟩) (by assumption) ?_
        ·intro w hSw
         try dsimp only at hSw
         go_simp
         try with_reducible rfl
        try simp only [Act.put, List.setIfInBounds_toArray, List.set_cons_zero, List.set_cons_succ]
        refine wpAnyH_take (i := 19) (oi := { dst := some 46, op := Op.binOp BinOp.leq 25 (Operand.tmp 45) (Operand.const (Value.int IntKind.u64 1099511627776)) 25, type := 4, pos := "note.go:91", after := #[{ on := 18, ground := Ground.data }, { on := 16, ground := Ground.guard }], guard := some (16, true) }) (v := .bool true) rfl (by kernel_rfl) (by kernel_rfl) (by kernel_rfl) (fun _ _ _ h => h) (Or.inl ⟨by rfl, ?_⟩) (by assumption) ?_
        ·intro w hSw
         try dsimp only at hSw
         go_simp
         try with_reducible rfl
        try simp only [Act.put, List.setIfInBounds_toArray, List.set_cons_zero, List.set_cons_succ]
        refine wpAnyH_take (i := 20) (oi := { dst := some 47, op := Op.pick (Operand.tmp 43) (Operand.tmp 46) (Operand.const (Value.bool false)), type := 4, pos := "note.go:91", after := #[{ on := 16, ground := Ground.data }, { on := 19, ground := Ground.data }], guard := none }) (v := .bool true) rfl (by kernel_rfl) (by kernel_rfl) (by kernel_rfl) (fun _ _ _ h => h) (Or.inl ⟨by rfl, ?_⟩) (by assumption) ?_
        ·intro w hSw
         try dsimp only at hSw
         go_simp
         try with_reducible rfl
        try simp only [Act.put, List.setIfInBounds_toArray, List.set_cons_zero, List.set_cons_succ]
        refine wpAnyH_done (by kernel_rfl) ?_ _
        have hE := nbel (by assumption)
        have D3 := Aside0.mk (blk_below C3.out hE)
        have D2 := Aside0.mk (blk_below C2.out hE)
        have DN := Aside0.mk (blk_below CN.out hE)
        have DO := Aside0.mk (Kd.R_below HO1.out hE)
        have DB := Aside0.mk (below_call HB1.out hE)
        have k3 := blk_drew D3.out
        have k2 := blk_drew D2.out
        have HN3 := Aside0.mk (Kd.R_ne (Kd.R_drew DO.out) k3 (by decide))
        have HN2 := Aside0.mk (Kd.R_ne (Kd.R_drew DO.out) k2 (by decide))
        clear k3 k2 hE
        go_wp2_with fail
        have s0 := blk_cell D3.out 0
        have s1 := blk_cell D3.out 1
        have s2 := blk_cell D3.out 2
        have s3 := blk_cell D3.out 3
        have s4 := blk_cell D3.out 4
        have s5 := blk_cell D3.out 5
        have fs0 := blk_frozen D3.out 0
        have fs1 := blk_frozen D3.out 1
        have fs2 := blk_frozen D3.out 2
        have fs3 := blk_frozen D3.out 3
        have fs4 := blk_frozen D3.out 4
        have fs5 := blk_frozen D3.out 5
        have t0 := blk_cell DN.out 0
        have t1 := blk_cell DN.out 1
        have t2 := blk_cell DN.out 2
        have t3 := blk_cell DN.out 3
        have t4 := blk_cell DN.out 4
        have zl0 := blk_lt D3.out
        have zl1 := blk_lt DN.out
        go_region_law (first | (refine Kd.R_append_step k75 (w0 := w) (W := w2.drew) w.heap.size (by rfl) (.tmp 52) (.tmp 58) 26 75 (.agg #[(.int .u64 0), (.string ⟨#[]⟩)]) 24 rfl Try.underlying26 info75 rfl (by decide) (by omega) (.slice A es.length c) es (⟨n2, n4⟩ : S75) [.int .u64 n2, .string n4] (fun _ => True) (fun _ => False) rfl rfl (k75_mkM _ _ _ _) (fun _ hk => hk.elim) (fun _ _ => trivial) ?aO ?aB ?aS ?aL ?_; (case aO => exact Kd.R_drew DO.out); (case aB => exact below_drew1 DB.out); (case aS => exact (below_drew1 DB.out).size); (case aL => have := HLE.out; omega); intro v4 w4 ho hb hg hat; obtain ⟨A4, c4, e4⟩ := Kd.R_slice ho; rw [List.length_append, List.length_singleton] at e4; subst e4; have k3 := blk_grown (blk_drew D3.out) hg HN3.out; have k2 := blk_grown (blk_drew D2.out) hg HN2.out; have E3 := Aside0.mk k3; have E2 := Aside0.mk k2; have EO := Aside0.mk ho; have EB := Aside0.mk hb; have s5 := blk_cell k3 5; have fs5 := blk_frozen k3 5; clear k3 k2 ho hb hg hat))
        all_goals (try clear s0 s1 s2 s3 s4 fs0 fs1 fs2 fs3 fs4 t0 t1 t2 t3 t4 zl0 zl1)
        all_goals have x0 := blk_put (cs' := #[.int .u64 term, .int .u64 vote, .int .u64 base, .int .u64 bt, .string snap, .slice A4 (es.length + 1) c4]) E3.out 5 (.slice A4 (es.length + 1) c4) rfl
        all_goals have y3 := x0
        all_goals have y2 := ((Below.heap_setCell _ ⟨w.heap.size + 1, 5, none⟩ (.slice A4 (es.length + 1) c4) w.heap.size (by show w.heap.size ≠ w.heap.size + 1; omega)).trans E2.out)
        all_goals have yO := (Kd.R_set EO.out E3.out (by decide) 5 (.slice A4 (es.length + 1) c4))
        all_goals have yB := (Below.setCell (p := ⟨w.heap.size + 1, 5, none⟩) EB.out (by show w.heap.size ≤ w.heap.size + 1; omega) (.slice A4 (es.length + 1) c4))
        all_goals generalize (w4.setCell ⟨w.heap.size + 1, 5, none⟩ (.slice A4 (es.length + 1) c4)) = W5 at y3 y2 yO yB ⊢
        all_goals have D3 := Aside0.mk y3
        all_goals have D2 := Aside0.mk y2
        all_goals have DO := Aside0.mk yO
        all_goals have DB := Aside0.mk yB
        all_goals clear y3 y2 yO yB x0
        all_goals go_wp2_with fail
        all_goals go_roundg (gk - 1)
        all_goals first
         | exact ⟨i + 1, _, A4, c4, by first | rfl | rw [HWI.out], ⟨by have := HI.out; omega⟩, HS2, HT2, ⟨by unfold stCells; dsimp only; rw [List.length_append]; exact D3.out⟩, D2, ⟨by dsimp only; rw [List.length_append]; exact DO.out⟩, DB⟩
         | (have := HI.out; omega)
       ·skip
        subst qa
        have qbb : decide ((es.length : Int) < 1024) = true := decide_eq_true qb
        have qcb : decide (n1 ≤ 1099511627776) = false := decide_eq_false qc
        have hst : stepN ⟨term, vote, base, bt, snap, es⟩ ⟨2, n1, n2, n3, n4⟩ = ⟨term, vote, base, bt, snap, es⟩ := (if_neg (show ¬ (2 : Int) = 1 by decide)).trans ((if_pos rfl).trans (if_neg (fun h : isNext _ _ => qc h.2.2)))
        rw [hst] at hS2
        have hT2 := HT.out
        rw [hst] at hT2
        have HS2 := Aside0.mk hS2
        have HT2 := Aside0.mk hT2
        clear hS2 hT2 hst
        clear hb0 hb1 hl1 hcc hC hL hL1
        go_wp2_with fail
        have hb0w := below_alloc (Below.refl wr.heap.size wr) (.cells #[.int .i64 2, .int .u64 n1, .int .u64 n2, .int .u64 n3, .string n4] 39)
        have b3 := blk_alloc B3.out (.cells #[.int .i64 2, .int .u64 n1, .int .u64 n2, .int .u64 n3, .string n4] 39)
        have b2 := blk_alloc B2.out (.cells #[.int .i64 2, .int .u64 n1, .int .u64 n2, .int .u64 n3, .string n4] 39)
        have bn := blk_new wr (.cells #[.int .i64 2, .int .u64 n1, .int .u64 n2, .int .u64 n3, .string n4] 39)
        have hO := Kd.R_below HO.out (below_alloc (Below.refl wr.heap.size wr) (.cells #[.int .i64 2, .int .u64 n1, .int .u64 n2, .int .u64 n3, .string n4] 39))
        have HB1 := Aside0.mk (below_alloc HB.out (.cells #[.int .i64 2, .int .u64 n1, .int .u64 n2, .int .u64 n3, .string n4] 39))
        have hws := HB.out.size
        generalize hW1 : wr.alloc (.cells #[.int .i64 2, .int .u64 n1, .int .u64 n2, .int .u64 n3, .string n4] 39) = W1 at b3 b2 bn hO HB1 hb0w ⊢
        clear hW1
        have HO1 := Aside0.mk hO
        have C3 := Aside0.mk b3
        have C2 := Aside0.mk b2
        have CN := Aside0.mk bn
        clear b3 b2 bn hO e0 e1 e2 e3 e4
        have HCL := Aside0.mk (show ∀ W, Below W1.heap.size W1 W → _ from fun W hb => hCL W (below_then hb0w hb0w.size hb))
        clear hCL hb0w
        have HSS := Aside0.mk (show W1.drew.cell? ⟨wr.heap.size, 1, none⟩ = some (.int .u64 n1) ∧ W1.drew.cell? ⟨w.heap.size + 1, 2, none⟩ = some (.int .u64 base) ∧ W1.drew.cell? ⟨w.heap.size + 1, 3, none⟩ = some (.int .u64 bt) ∧ W1.drew.cell? ⟨w.heap.size + 1, 4, none⟩ = some (.string snap) ∧ W1.drew.cell? ⟨w.heap.size + 1, 5, none⟩ = some (.slice A es.length c) ∧ Below W1.heap.size W1 W1.drew from ⟨blk_cell CN.out 1, blk_cell C3.out 2, blk_cell C3.out 3, blk_cell C3.out 4, blk_cell C3.out 5, below_drew1 (Below.refl _ _)⟩)
        refine wp_region_held_drew (S := fun W' => W'.cell? ⟨wr.heap.size, 1, none⟩ = some (.int .u64 n1) ∧ W'.cell? ⟨w.heap.size + 1, 2, none⟩ = some (.int .u64 base) ∧ W'.cell? ⟨w.heap.size + 1, 3, none⟩ = some (.int .u64 bt) ∧ W'.cell? ⟨w.heap.size + 1, 4, none⟩ = some (.string snap) ∧ W'.cell? ⟨w.heap.size + 1, 5, none⟩ = some (.slice A es.length c) ∧ Below W1.heap.size W1 W') (by kernel_rfl) HSS.out (fun hHeld => ?_)
        refine wpAnyH_take (i := 0) (oi := { dst := some 27, op := Op.fieldAddr 39 (Operand.tmp 6) 1, type := 0, pos := "note.go:91", after := #[], guard := none }) (v := .pointer (some ⟨wr.heap.size, 1, none⟩)) rfl (by kernel_rfl) (by kernel_rfl) (by kernel_rfl) (fun _ _ _ h => h) (Or.inl ⟨by rfl, ?_⟩) (by assumption) ?_
        ·intro w hSw
         try dsimp only at hSw
         go_simp
         try with_reducible rfl
        try simp only [Act.put, List.setIfInBounds_toArray, List.set_cons_zero, List.set_cons_succ]
        refine wpAnyH_take (i := 1) (oi := { dst := some 28, op := Op.load 25 (Operand.tmp 27), type := 25, pos := "note.go:91", after := #[{ on := 0, ground := Ground.data }], guard := none }) (v := .int .u64 n1) rfl (by kernel_rfl) (by kernel_rfl) (by kernel_rfl) (fun _ _ _ h => h) (Or.inl ⟨by rfl, ?_⟩) (by assumption) ?_
        ·intro w hSw
         try dsimp only at hSw
         go_simp
         try with_reducible rfl
        try simp only [Act.put, List.setIfInBounds_toArray, List.set_cons_zero, List.set_cons_succ]
        refine wpAnyH_take (i := 2) (oi := { dst := some 29, op := Op.move (Operand.tmp 4), type := 72, pos := "note.go:91", after := #[], guard := none }) (v := .pointer (some ⟨w.heap.size + 1, 2, none⟩)) rfl (by kernel_rfl) (by kernel_rfl) (by kernel_rfl) (fun _ _ _ h => h) (Or.inl ⟨by rfl, ?_⟩) (by assumption) ?_
        ·intro w hSw
         try dsimp only at hSw
         go_simp
         try with_reducible rfl
        try simp only [Act.put, List.setIfInBounds_toArray, List.set_cons_zero, List.set_cons_succ]
        refine wpAnyH_take (i := 3) (oi := { dst := some 30, op := Op.nilCheck (Operand.tmp 29), type := 0, pos := "note.go:91", after := #[{ on := 2, ground := Ground.data }], guard := none }) (v := .pointer (some ⟨w.heap.size + 1, 2, none⟩)) rfl (by kernel_rfl) (by kernel_rfl) (by kernel_rfl) (fun _ _ _ h => h) (Or.inl ⟨by rfl, ?_⟩) (by assumption) ?_
        ·intro w hSw
         try dsimp only at hSw
         go_simp
         try with_reducible rfl
        try simp only [Act.put, List.setIfInBounds_toArray, List.set_cons_zero, List.set_cons_succ]
        refine wpAnyH_take (i := 4) (oi := { dst := some 31, op := Op.load 28 (Operand.tmp 30), type := 28, pos := "note.go:91", after := #[{ on := 3, ground := Ground.data }], guard := none }) (v := .agg #[.int .u64 base, .int .u64 bt, .string snap, .slice A es.length c]) rfl (by kernel_rfl) (by kernel_rfl) (by kernel_rfl) (fun _ _ _ h => h) (Or.inl ⟨by rfl, ?_⟩) (by assumption) ?_
        ·intro w hSw
         try dsimp only at hSw
         go_simp
         try with_reducible rfl
        try simp only [Act.put, List.setIfInBounds_toArray, List.set_cons_zero, List.set_cons_succ]
        refine wpAnyH_ready (rs := [5]) (by kernel_rfl) (by simp) ?_
        refine AllReadyH.cons (o := { dst := some 32, op := Op.call { callee := Callee.value (Operand.func 42), args := #[Operand.tmp 31], argTypes := #[28] }, type := 25, pos := "note.go:91", after := #[{ on := 4, ground := Ground.data }], guard := none }) rfl (fun K hK => ?_) AllReadyH.nil
        go_simp
        refine (HCL.out _ (nbel hHeld)).mono ?_
        rintro e w2 ⟨rfl, hb⟩
        go_wp2_with fail
        refine hK.out _ _ ?_ (fun hHeld => ?_)
        ·exact nkeep hHeld hb
        clear hK K
        try simp only [Act.put, List.setIfInBounds_toArray, List.set_cons_zero, List.set_cons_succ]
        refine wpAnyH_take (i := 6) (oi := { dst := some 33, op := Op.binOp BinOp.add 25 (Operand.tmp 32) (Operand.const (Value.int IntKind.u64 1)) 25, type := 25, pos := "note.go:91", after := #[{ on := 5, ground := Ground.data }], guard := none }) (v := .int .u64 n1) rfl (by kernel_rfl) (by kernel_rfl) (by kernel_rfl) (fun _ _ _ h => h) (Or.inl ⟨by rfl, ?_⟩) (by assumption) ?_
        ·intro w hSw
         try dsimp only at hSw
         go_simp
         try with_reducible rfl
        try simp only [Act.put, List.setIfInBounds_toArray, List.set_cons_zero, List.set_cons_succ]
        refine wpAnyH_take (i := 7) (oi := { dst := some 34, op := Op.binOp BinOp.eql 25 (Operand.tmp 28) (Operand.tmp 33) 25, type := 4, pos := "note.go:91", after := #[{ on := 1, ground := Ground.data }, { on := 6, ground := Ground.data }], guard := none }) (v := .bool true) rfl (by kernel_rfl) (by kernel_rfl) (by kernel_rfl) (fun _ _ _ h => h) (Or.inl ⟨by rfl, ?_⟩) (by assumption) ?_
        ·intro w hSw
         try dsimp only at hSw
         go_simp
         try with_reducible rfl
        try simp only [Act.put, List.setIfInBounds_toArray, List.set_cons_zero, List.set_cons_succ]
        refine wpAnyH_take (i := 8) (oi := { dst := some 35, op := Op.move (Operand.tmp 34), type := 4, pos := "note.go:91", after := #[{ on := 7, ground := Ground.data }, { on := 5, ground := Ground.chain }], guard := none }) (v := .bool true) rfl (by kernel_rfl) (by kernel_rfl) (by kernel_rfl) (fun _ _ _ h => h) (Or.inl ⟨by rfl, ?_⟩) (by assumption) ?_
        ·intro w hSw
         try dsimp only at hSw
         go_simp
         try with_reducible rfl
        try simp only [Act.put, List.setIfInBounds_toArray, List.set_cons_zero, List.set_cons_succ]
        refine wpAnyH_take (i := 9) (oi := { dst := some 36, op := Op.move (Operand.tmp 4), type := 72, pos := "note.go:91", after := #[{ on := 8, ground := Ground.guard }], guard := some (8, true) }) (v := .pointer (some ⟨w.heap.size + 1, 2, none⟩)) rfl (by kernel_rfl) (by kernel_rfl) (by kernel_rfl) (fun _ _ _ h => h) (Or.inl ⟨by rfl, ?_⟩) (by assumption) ?_
        ·intro w hSw
         try dsimp only at hSw
         go_simp
         try with_reducible rfl
        try simp only [Act.put, List.setIfInBounds_toArray, List.set_cons_zero, List.set_cons_succ]
        refine wpAnyH_take (i := 10) (oi := { dst := some 37, op := Op.nilCheck (Operand.tmp 36), type := 0, pos := "note.go:91", after := #[{ on := 9, ground := Ground.data }, { on := 8, ground := Ground.guard }], guard := some (8, true) }) (v := .pointer (some ⟨w.heap.size + 1, 2, none⟩)) rfl (by kernel_rfl) (by kernel_rfl) (by kernel_rfl) (fun _ _ _ h => h) (Or.inl ⟨by rfl, ?_⟩) (by assumption) ?_
        ·intro w hSw
         try dsimp only at hSw
         go_simp
         try with_reducible rfl
        try simp only [Act.put, List.setIfInBounds_toArray, List.set_cons_zero, List.set_cons_succ]
        refine wpAnyH_take (i := 11) (oi := { dst := some 38, op := Op.fieldAddr 28 (Operand.tmp 37) 3, type := 0, pos := "note.go:91", after := #[{ on := 10, ground := Ground.data }, { on := 8, ground := Ground.guard }], guard := some (8, true) }) (v := .pointer (some ⟨w.heap.size + 1, 5, none⟩)) rfl (by kernel_rfl) (by kernel_rfl) (by kernel_rfl) (fun _ _ _ h => h) (Or.inl ⟨by rfl, ?_⟩) (by assumption) ?_
        ·intro w hSw
         try dsimp only at hSw
         go_simp
         try with_reducible rfl
        try simp only [Act.put, List.setIfInBounds_toArray, List.set_cons_zero, List.set_cons_succ]
        refine wpAnyH_take (i := 12) (oi := { dst := some 39, op := Op.load 26 (Operand.tmp 38), type := 26, pos := "note.go:91", after := #[{ on := 11, ground := Ground.data }, { on := 8, ground := Ground.guard }], guard := some (8, true) }) (v := .slice A es.length c) rfl (by kernel_rfl) (by kernel_rfl) (by kernel_rfl) (fun _ _ _ h => h) (Or.inl ⟨by rfl, ?_⟩) (by assumption) ?_
        ·intro w hSw
         try dsimp only at hSw
         go_simp
         try with_reducible rfl
        try simp only [Act.put, List.setIfInBounds_toArray, List.set_cons_zero, List.set_cons_succ]
        refine wpAnyH_take (i := 13) (oi := { dst := some 40, op := Op.call { callee := Callee.builtin Builtin.len, args := #[Operand.tmp 39], argTypes := #[26] }, type := 3, pos := "note.go:91", after := #[{ on := 12, ground := Ground.data }, { on := 8, ground := Ground.guard }], guard := some (8, true) }) (v := .int .i64 (es.length : Int)) rfl (by kernel_rfl) (by kernel_rfl) (by kernel_rfl) (fun _ _ _ h => h) (Or.inl ⟨by rfl, ?_⟩) (by assumption) ?_
        ·intro w hSw
         try dsimp only at hSw
         go_simp
         try with_reducible rfl
        try simp only [Act.put, List.setIfInBounds_toArray, List.set_cons_zero, List.set_cons_succ]
        refine wpAnyH_take (i := 14) (oi := { dst := some 41, op := Op.binOp BinOp.lss 3 (Operand.tmp 40) (Operand.const (Value.int IntKind.i64 1024)) 3, type := 4, pos := "note.go:91", after := #[{ on := 13, ground := Ground.data }, { on := 8, ground := Ground.guard }], guard := some (8, true) }) (v := .bool true) rfl (by kernel_rfl) (by kernel_rfl) (by kernel_rfl) (fun _ _ _ h => h) (Or.inl ⟨by rfl, ?_⟩) (by assumption) ?_
        ·intro w hSw
         try dsimp only at hSw
         go_simp
         try with_reducible rfl
        try simp only [Act.put, List.setIfInBounds_toArray, List.set_cons_zero, List.set_cons_succ]
        refine wpAnyH_take (i := 15) (oi := { dst := some 42, op := Op.pick (Operand.tmp 35) (Operand.tmp 41) (Operand.const (Value.bool false)), type := 4, pos := "note.go:91", after := #[{ on := 8, ground := Ground.data }, { on := 14, ground := Ground.data }], guard := none }) (v := .bool true) rfl (by kernel_rfl) (by kernel_rfl) (by kernel_rfl) (fun _ _ _ h => h) (Or.inl ⟨by rfl, ?_⟩) (by assumption) ?_
        ·intro w hSw
         try dsimp only at hSw
         go_simp
         try with_reducible rfl
        try simp only [Act.put, List.setIfInBounds_toArray, List.set_cons_zero, List.set_cons_succ]
        refine wpAnyH_take (i := 16) (oi := { dst := some 43, op := Op.move (Operand.tmp 42), type := 4, pos := "note.go:91", after := #[{ on := 15, ground := Ground.data }, { on := 8, ground := Ground.chain }], guard := none }) (v := .bool true) rfl (by kernel_rfl) (by kernel_rfl) (by kernel_rfl) (fun _ _ _ h => h) (Or.inl ⟨by rfl, ?_⟩) (by assumption) ?_
        ·intro w hSw
         try dsimp only at hSw
         go_simp
         try with_reducible rfl
        try simp only [Act.put, List.setIfInBounds_toArray, List.set_cons_zero, List.set_cons_succ]
        refine wpAnyH_take (i := 17) (oi := { dst := some 44, op := Op.fieldAddr 39 (Operand.tmp 6) 1, type := 0, pos := "note.go:91", after := #[{ on := 16, ground := Ground.guard }], guard := some (16, true) }) (v := .pointer (some ⟨wr.heap.size, 1, none⟩)) rfl (by kernel_rfl) (by kernel_rfl) (by kernel_rfl) (fun _ _ _ h => h) (Or.inl ⟨by rfl, ?_⟩) (by assumption) ?_
        ·intro w hSw
         try dsimp only at hSw
         go_simp
         try with_reducible rfl
        try simp only [Act.put, List.setIfInBounds_toArray, List.set_cons_zero, List.set_cons_succ]
        refine wpAnyH_take (i := 18) (oi := { dst := some 45, op := Op.load 25 (Operand.tmp 44), type := 25, pos := "note.go:91", after := #[{ on := 17, ground := Ground.data }, { on := 16, ground := Ground.guard }], guard := some (16, true) }) (v := .int .u64 n1) rfl (by kernel_rfl) (by kernel_rfl) (by kernel_rfl) (fun _ _ _ h => h) (Or.inl ⟨by rfl, ?_⟩) (by assumption) ?_
        ·intro w hSw
         try dsimp only at hSw
         go_simp
         try with_reducible rfl
        try simp only [Act.put, List.setIfInBounds_toArray, List.set_cons_zero, List.set_cons_succ]
        refine wpAnyH_take (i := 19) (oi := { dst := some 46, op := Op.binOp BinOp.leq 25 (Operand.tmp 45) (Operand.const (Value.int IntKind.u64 1099511627776)) 25, type := 4, pos := "note.go:91", after := #[{ on := 18, ground := Ground.data }, { on := 16, ground := Ground.guard }], guard := some (16, true) }) (v := .bool false) rfl (by kernel_rfl) (by kernel_rfl) (by kernel_rfl) (fun _ _ _ h => h) (Or.inl ⟨by rfl, ?_⟩) (by assumption) ?_
        ·intro w hSw
         try dsimp only at hSw
         go_simp
         try with_reducible rfl
        try simp only [Act.put, List.setIfInBounds_toArray, List.set_cons_zero, List.set_cons_succ]
        refine wpAnyH_take (i := 20) (oi := { dst := some 47, op := Op.pick (Operand.tmp 43) (Operand.tmp 46) (Operand.const (Value.bool false)), type := 4, pos := "note.go:91", after := #[{ on := 16, ground := Ground.data }, { on := 19, ground := Ground.data }], guard := none }) (v := .bool false) rfl (by kernel_rfl) (by kernel_rfl) (by kernel_rfl) (fun _ _ _ h => h) (Or.inl ⟨by rfl, ?_⟩) (by assumption) ?_
        ·intro w hSw
         try dsimp only at hSw
         go_simp
         try with_reducible rfl
        try simp only [Act.put, List.setIfInBounds_toArray, List.set_cons_zero, List.set_cons_succ]
        refine wpAnyH_done (by kernel_rfl) ?_ _
        have hE := nbel (by assumption)
        have D3 := Aside0.mk (blk_below C3.out hE)
        have D2 := Aside0.mk (blk_below C2.out hE)
        have DN := Aside0.mk (blk_below CN.out hE)
        have DO := Aside0.mk (Kd.R_below HO1.out hE)
        have DB := Aside0.mk (below_call HB1.out hE)
        clear hE
        go_wp2_with fail
        go_roundg (gk - 1)
        case measure => have := HI.out; omega
        case rel => exact ⟨i + 1, _, A, c, by first | rfl | rw [HWI.out], ⟨by have := HI.out; omega⟩, HS2, HT2, D3, D2, DO, DB⟩
      ·skip
       subst qa
       have qbb : decide ((es.length : Int) < 1024) = false := decide_eq_false qb
       have hst : stepN ⟨term, vote, base, bt, snap, es⟩ ⟨2, n1, n2, n3, n4⟩ = ⟨term, vote, base, bt, snap, es⟩ := (if_neg (show ¬ (2 : Int) = 1 by decide)).trans ((if_pos rfl).trans (if_neg (fun h : isNext _ _ => qb (by have := h.2.1; dsimp only at this; omega))))
       rw [hst] at hS2
       have hT2 := HT.out
       rw [hst] at hT2
       have HS2 := Aside0.mk hS2
       have HT2 := Aside0.mk hT2
       clear hS2 hT2 hst
       clear hb0 hb1 hl1 hcc hC hL hL1
       go_wp2_with fail
       have hb0w := below_alloc (Below.refl wr.heap.size wr) (.cells #[.int .i64 2, .int .u64 n1, .int .u64 n2, .int .u64 n3, .string n4] 39)
       have b3 := blk_alloc B3.out (.cells #[.int .i64 2, .int .u64 n1, .int .u64 n2, .int .u64 n3, .string n4] 39)
       have b2 := blk_alloc B2.out (.cells #[.int .i64 2, .int .u64 n1, .int .u64 n2, .int .u64 n3, .string n4] 39)
       have bn := blk_new wr (.cells #[.int .i64 2, .int .u64 n1, .int .u64 n2, .int .u64 n3, .string n4] 39)
       have hO := Kd.R_below HO.out (below_alloc (Below.refl wr.heap.size wr) (.cells #[.int .i64 2, .int .u64 n1, .int .u64 n2, .int .u64 n3, .string n4] 39))
       have HB1 := Aside0.mk (below_alloc HB.out (.cells #[.int .i64 2, .int .u64 n1, .int .u64 n2, .int .u64 n3, .string n4] 39))
       have hws := HB.out.size
       generalize hW1 : wr.alloc (.cells #[.int .i64 2, .int .u64 n1, .int .u64 n2, .int .u64 n3, .string n4] 39) = W1 at b3 b2 bn hO HB1 hb0w ⊢
       clear hW1
       have HO1 := Aside0.mk hO
       have C3 := Aside0.mk b3
       have C2 := Aside0.mk b2
       have CN := Aside0.mk bn
       clear b3 b2 bn hO e0 e1 e2 e3 e4
       have HCL := Aside0.mk (show ∀ W, Below W1.heap.size W1 W → _ from fun W hb => hCL W (below_then hb0w hb0w.size hb))
       clear hCL hb0w
       have HSS := Aside0.mk (show W1.drew.cell? ⟨wr.heap.size, 1, none⟩ = some (.int .u64 n1) ∧ W1.drew.cell? ⟨w.heap.size + 1, 2, none⟩ = some (.int .u64 base) ∧ W1.drew.cell? ⟨w.heap.size + 1, 3, none⟩ = some (.int .u64 bt) ∧ W1.drew.cell? ⟨w.heap.size + 1, 4, none⟩ = some (.string snap) ∧ W1.drew.cell? ⟨w.heap.size + 1, 5, none⟩ = some (.slice A es.length c) ∧ Below W1.heap.size W1 W1.drew from ⟨blk_cell CN.out 1, blk_cell C3.out 2, blk_cell C3.out 3, blk_cell C3.out 4, blk_cell C3.out 5, below_drew1 (Below.refl _ _)⟩)
       refine wp_region_held_drew (S := fun W' => W'.cell? ⟨wr.heap.size, 1, none⟩ = some (.int .u64 n1) ∧ W'.cell? ⟨w.heap.size + 1, 2, none⟩ = some (.int .u64 base) ∧ W'.cell? ⟨w.heap.size + 1, 3, none⟩ = some (.int .u64 bt) ∧ W'.cell? ⟨w.heap.size + 1, 4, none⟩ = some (.string snap) ∧ W'.cell? ⟨w.heap.size + 1, 5, none⟩ = some (.slice A es.length c) ∧ Below W1.heap.size W1 W') (by kernel_rfl) HSS.out (fun hHeld => ?_)
       refine wpAnyH_take (i := 0) (oi := { dst := some 27, op := Op.fieldAddr 39 (Operand.tmp 6) 1, type := 0, pos := "note.go:91", after := #[], guard := none }) (v := .pointer (some ⟨wr.heap.size, 1, none⟩)) rfl (by kernel_rfl) (by kernel_rfl) (by kernel_rfl) (fun _ _ _ h => h) (Or.inl ⟨by rfl, ?_⟩) (by assumption) ?_
       ·intro w hSw
        try dsimp only at hSw
        go_simp
        try with_reducible rfl
       try simp only [Act.put, List.setIfInBounds_toArray, List.set_cons_zero, List.set_cons_succ]
       refine wpAnyH_take (i := 1) (oi := { dst := some 28, op := Op.load 25 (Operand.tmp 27), type := 25, pos := "note.go:91", after := #[{ on := 0, ground := Ground.data }], guard := none }) (v := .int .u64 n1) rfl (by kernel_rfl) (by kernel_rfl) (by kernel_rfl) (fun _ _ _ h => h) (Or.inl ⟨by rfl, ?_⟩) (by assumption) ?_
       ·intro w hSw
        try dsimp only at hSw
        go_simp
        try with_reducible rfl
       try simp only [Act.put, List.setIfInBounds_toArray, List.set_cons_zero, List.set_cons_succ]
       refine wpAnyH_take (i := 2) (oi := { dst := some 29, op := Op.move (Operand.tmp 4), type := 72, pos := "note.go:91", after := #[], guard := none }) (v := .pointer (some ⟨w.heap.size + 1, 2, none⟩)) rfl (by kernel_rfl) (by kernel_rfl) (by kernel_rfl) (fun _ _ _ h => h) (Or.inl ⟨by rfl, ?_⟩) (by assumption) ?_
       ·intro w hSw
        try dsimp only at hSw
        go_simp
        try with_reducible rfl
       try simp only [Act.put, List.setIfInBounds_toArray, List.set_cons_zero, List.set_cons_succ]
       refine wpAnyH_take (i := 3) (oi := { dst := some 30, op := Op.nilCheck (Operand.tmp 29), type := 0, pos := "note.go:91", after := #[{ on := 2, ground := Ground.data }], guard := none }) (v := .pointer (some ⟨w.heap.size + 1, 2, none⟩)) rfl (by kernel_rfl) (by kernel_rfl) (by kernel_rfl) (fun _ _ _ h => h) (Or.inl ⟨by rfl, ?_⟩) (by assumption) ?_
       ·intro w hSw
        try dsimp only at hSw
        go_simp
        try with_reducible rfl
       try simp only [Act.put, List.setIfInBounds_toArray, List.set_cons_zero, List.set_cons_succ]
       refine wpAnyH_take (i := 4) (oi := { dst := some 31, op := Op.load 28 (Operand.tmp 30), type := 28, pos := "note.go:91", after := #[{ on := 3, ground := Ground.data }], guard := none }) (v := .agg #[.int .u64 base, .int .u64 bt, .string snap, .slice A es.length c]) rfl (by kernel_rfl) (by kernel_rfl) (by kernel_rfl) (fun _ _ _ h => h) (Or.inl ⟨by rfl, ?_⟩) (by assumption) ?_
       ·intro w hSw
        try dsimp only at hSw
        go_simp
        try with_reducible rfl
       try simp only [Act.put, List.setIfInBounds_toArray, List.set_cons_zero, List.set_cons_succ]
       refine wpAnyH_ready (rs := [5]) (by kernel_rfl) (by simp) ?_
       refine AllReadyH.cons (o := { dst := some 32, op := Op.call { callee := Callee.value (Operand.func 42), args := #[Operand.tmp 31], argTypes := #[28] }, type := 25, pos := "note.go:91", after := #[{ on := 4, ground := Ground.data }], guard := none }) rfl (fun K hK => ?_) AllReadyH.nil
       go_simp
       refine (HCL.out _ (nbel hHeld)).mono ?_
       rintro e w2 ⟨rfl, hb⟩
       go_wp2_with fail
       refine hK.out _ _ ?_ (fun hHeld => ?_)
       ·exact nkeep hHeld hb
       clear hK K
       try simp only [Act.put, List.setIfInBounds_toArray, List.set_cons_zero, List.set_cons_succ]
       refine wpAnyH_take (i := 6) (oi := { dst := some 33, op := Op.binOp BinOp.add 25 (Operand.tmp 32) (Operand.const (Value.int IntKind.u64 1)) 25, type := 25, pos := "note.go:91", after := #[{ on := 5, ground := Ground.data }], guard := none }) (v := .int .u64 n1) rfl (by kernel_rfl) (by kernel_rfl) (by kernel_rfl) (fun _ _ _ h => h) (Or.inl ⟨by rfl, ?_⟩) (by assumption) ?_
       ·intro w hSw
        try dsimp only at hSw
        go_simp
        try with_reducible rfl
       try simp only [Act.put, List.setIfInBounds_toArray, List.set_cons_zero, List.set_cons_succ]
       refine wpAnyH_take (i := 7) (oi := { dst := some 34, op := Op.binOp BinOp.eql 25 (Operand.tmp 28) (Operand.tmp 33) 25, type := 4, pos := "note.go:91", after := #[{ on := 1, ground := Ground.data }, { on := 6, ground := Ground.data }], guard := none }) (v := .bool true) rfl (by kernel_rfl) (by kernel_rfl) (by kernel_rfl) (fun _ _ _ h => h) (Or.inl ⟨by rfl, ?_⟩) (by assumption) ?_
       ·intro w hSw
        try dsimp only at hSw
        go_simp
        try with_reducible rfl
       try simp only [Act.put, List.setIfInBounds_toArray, List.set_cons_zero, List.set_cons_succ]
       refine wpAnyH_take (i := 8) (oi := { dst := some 35, op := Op.move (Operand.tmp 34), type := 4, pos := "note.go:91", after := #[{ on := 7, ground := Ground.data }, { on := 5, ground := Ground.chain }], guard := none }) (v := .bool true) rfl (by kernel_rfl) (by kernel_rfl) (by kernel_rfl) (fun _ _ _ h => h) (Or.inl ⟨by rfl, ?_⟩) (by assumption) ?_
       ·intro w hSw
        try dsimp only at hSw
        go_simp
        try with_reducible rfl
       try simp only [Act.put, List.setIfInBounds_toArray, List.set_cons_zero, List.set_cons_succ]
       refine wpAnyH_take (i := 9) (oi := { dst := some 36, op := Op.move (Operand.tmp 4), type := 72, pos := "note.go:91", after := #[{ on := 8, ground := Ground.guard }], guard := some (8, true) }) (v := .pointer (some ⟨w.heap.size + 1, 2, none⟩)) rfl (by kernel_rfl) (by kernel_rfl) (by kernel_rfl) (fun _ _ _ h => h) (Or.inl ⟨by rfl, ?_⟩) (by assumption) ?_
       ·intro w hSw
        try dsimp only at hSw
        go_simp
        try with_reducible rfl
       try simp only [Act.put, List.setIfInBounds_toArray, List.set_cons_zero, List.set_cons_succ]
       refine wpAnyH_take (i := 10) (oi := { dst := some 37, op := Op.nilCheck (Operand.tmp 36), type := 0, pos := "note.go:91", after := #[{ on := 9, ground := Ground.data }, { on := 8, ground := Ground.guard }], guard := some (8, true) }) (v := .pointer (some ⟨w.heap.size + 1, 2, none⟩)) rfl (by kernel_rfl) (by kernel_rfl) (by kernel_rfl) (fun _ _ _ h => h) (Or.inl ⟨by rfl, ?_⟩) (by assumption) ?_
       ·intro w hSw
        try dsimp only at hSw
        go_simp
        try with_reducible rfl
       try simp only [Act.put, List.setIfInBounds_toArray, List.set_cons_zero, List.set_cons_succ]
       refine wpAnyH_take (i := 11) (oi := { dst := some 38, op := Op.fieldAddr 28 (Operand.tmp 37) 3, type := 0, pos := "note.go:91", after := #[{ on := 10, ground := Ground.data }, { on := 8, ground := Ground.guard }], guard := some (8, true) }) (v := .pointer (some ⟨w.heap.size + 1, 5, none⟩)) rfl (by kernel_rfl) (by kernel_rfl) (by kernel_rfl) (fun _ _ _ h => h) (Or.inl ⟨by rfl, ?_⟩) (by assumption) ?_
       ·intro w hSw
        try dsimp only at hSw
        go_simp
        try with_reducible rfl
       try simp only [Act.put, List.setIfInBounds_toArray, List.set_cons_zero, List.set_cons_succ]
       refine wpAnyH_take (i := 12) (oi := { dst := some 39, op := Op.load 26 (Operand.tmp 38), type := 26, pos := "note.go:91", after := #[{ on := 11, ground := Ground.data }, { on := 8, ground := Ground.guard }], guard := some (8, true) }) (v := .slice A es.length c) rfl (by kernel_rfl) (by kernel_rfl) (by kernel_rfl) (fun _ _ _ h => h) (Or.inl ⟨by rfl, ?_⟩) (by assumption) ?_
       ·intro w hSw
        try dsimp only at hSw
        go_simp
        try with_reducible rfl
       try simp only [Act.put, List.setIfInBounds_toArray, List.set_cons_zero, List.set_cons_succ]
       refine wpAnyH_take (i := 13) (oi := { dst := some 40, op := Op.call { callee := Callee.builtin Builtin.len, args := #[Operand.tmp 39], argTypes := #[26] }, type := 3, pos := "note.go:91", after := #[{ on := 12, ground := Ground.data }, { on := 8, ground := Ground.guard }], guard := some (8, true) }) (v := .int .i64 (es.length : Int)) rfl (by kernel_rfl) (by kernel_rfl) (by kernel_rfl) (fun _ _ _ h => h) (Or.inl ⟨by rfl, ?_⟩) (by assumption) ?_
       ·intro w hSw
        try dsimp only at hSw
        go_simp
        try with_reducible rfl
       try simp only [Act.put, List.setIfInBounds_toArray, List.set_cons_zero, List.set_cons_succ]
       refine wpAnyH_take (i := 14) (oi := { dst := some 41, op := Op.binOp BinOp.lss 3 (Operand.tmp 40) (Operand.const (Value.int IntKind.i64 1024)) 3, type := 4, pos := "note.go:91", after := #[{ on := 13, ground := Ground.data }, { on := 8, ground := Ground.guard }], guard := some (8, true) }) (v := .bool false) rfl (by kernel_rfl) (by kernel_rfl) (by kernel_rfl) (fun _ _ _ h => h) (Or.inl ⟨by rfl, ?_⟩) (by assumption) ?_
       ·intro w hSw
        try dsimp only at hSw
        go_simp
        try with_reducible rfl
       try simp only [Act.put, List.setIfInBounds_toArray, List.set_cons_zero, List.set_cons_succ]
       refine wpAnyH_take (i := 15) (oi := { dst := some 42, op := Op.pick (Operand.tmp 35) (Operand.tmp 41) (Operand.const (Value.bool false)), type := 4, pos := "note.go:91", after := #[{ on := 8, ground := Ground.data }, { on := 14, ground := Ground.data }], guard := none }) (v := .bool false) rfl (by kernel_rfl) (by kernel_rfl) (by kernel_rfl) (fun _ _ _ h => h) (Or.inl ⟨by rfl, ?_⟩) (by assumption) ?_
       ·intro w hSw
        try dsimp only at hSw
        go_simp
        try with_reducible rfl
       try simp only [Act.put, List.setIfInBounds_toArray, List.set_cons_zero, List.set_cons_succ]
       refine wpAnyH_take (i := 16) (oi := { dst := some 43, op := Op.move (Operand.tmp 42), type := 4, pos := "note.go:91", after := #[{ on := 15, ground := Ground.data }, { on := 8, ground := Ground.chain }], guard := none }) (v := .bool false) rfl (by kernel_rfl) (by kernel_rfl) (by kernel_rfl) (fun _ _ _ h => h) (Or.inl ⟨by rfl, ?_⟩) (by assumption) ?_
       ·intro w hSw
        try dsimp only at hSw
        go_simp
        try with_reducible rfl
       try simp only [Act.put, List.setIfInBounds_toArray, List.set_cons_zero, List.set_cons_succ]
       refine wpAnyH_take (i := 17) (oi := { dst := some 44, op := Op.fieldAddr 39 (Operand.tmp 6) 1, type := 0, pos := "note.go:91", after := #[{ on := 16, ground := Ground.guard }], guard := some (16, true) }) (v := undef) rfl (by kernel_rfl) (by kernel_rfl) (by kernel_rfl) (fun _ _ _ h => h) (Or.inr ⟨by rfl, rfl⟩) (by assumption) ?_
       try simp only [Act.put, List.setIfInBounds_toArray, List.set_cons_zero, List.set_cons_succ]
       refine wpAnyH_take (i := 18) (oi := { dst := some 45, op := Op.load 25 (Operand.tmp 44), type := 25, pos := "note.go:91", after := #[{ on := 17, ground := Ground.data }, { on := 16, ground := Ground.guard }], guard := some (16, true) }) (v := undef) rfl (by kernel_rfl) (by kernel_rfl) (by kernel_rfl) (fun _ _ _ h => h) (Or.inr ⟨by rfl, rfl⟩) (by assumption) ?_
       try simp only [Act.put, List.setIfInBounds_toArray, List.set_cons_zero, List.set_cons_succ]
       refine wpAnyH_take (i := 19) (oi := { dst := some 46, op := Op.binOp BinOp.leq 25 (Operand.tmp 45) (Operand.const (Value.int IntKind.u64 1099511627776)) 25, type := 4, pos := "note.go:91", after := #[{ on := 18, ground := Ground.data }, { on := 16, ground := Ground.guard }], guard := some (16, true) }) (v := undef) rfl (by kernel_rfl) (by kernel_rfl) (by kernel_rfl) (fun _ _ _ h => h) (Or.inr ⟨by rfl, rfl⟩) (by assumption) ?_
       try simp only [Act.put, List.setIfInBounds_toArray, List.set_cons_zero, List.set_cons_succ]
       refine wpAnyH_take (i := 20) (oi := { dst := some 47, op := Op.pick (Operand.tmp 43) (Operand.tmp 46) (Operand.const (Value.bool false)), type := 4, pos := "note.go:91", after := #[{ on := 16, ground := Ground.data }, { on := 19, ground := Ground.data }], guard := none }) (v := .bool false) rfl (by kernel_rfl) (by kernel_rfl) (by kernel_rfl) (fun _ _ _ h => h) (Or.inl ⟨by rfl, ?_⟩) (by assumption) ?_
       ·intro w hSw
        try dsimp only at hSw
        go_simp
        try with_reducible rfl
       try simp only [Act.put, List.setIfInBounds_toArray, List.set_cons_zero, List.set_cons_succ]
       refine wpAnyH_done (by kernel_rfl) ?_ _
       have hE := nbel (by assumption)
       have D3 := Aside0.mk (blk_below C3.out hE)
       have D2 := Aside0.mk (blk_below C2.out hE)
       have DN := Aside0.mk (blk_below CN.out hE)
       have DO := Aside0.mk (Kd.R_below HO1.out hE)
       have DB := Aside0.mk (below_call HB1.out hE)
       clear hE
       go_wp2_with fail
       go_roundg (gk - 1)
       case measure => have := HI.out; omega
       case rel => exact ⟨i + 1, _, A, c, by first | rfl | rw [HWI.out], ⟨by have := HI.out; omega⟩, HS2, HT2, D3, D2, DO, DB⟩
     ·skip
      have qab : (n1 == L1) = false := beq_eq_false_iff_ne.mpr qa
      have hst : stepN ⟨term, vote, base, bt, snap, es⟩ ⟨2, n1, n2, n3, n4⟩ = ⟨term, vote, base, bt, snap, es⟩ := (if_neg (show ¬ (2 : Int) = 1 by decide)).trans ((if_pos rfl).trans (if_neg (fun h : isNext _ _ => qa (by have := h.1; dsimp only at this; omega))))
      rw [hst] at hS2
      have hT2 := HT.out
      rw [hst] at hT2
      have HS2 := Aside0.mk hS2
      have HT2 := Aside0.mk hT2
      clear hS2 hT2 hst
      clear hb0 hb1 hl1 hcc hC hL hL1
      go_wp2_with fail
      have hb0w := below_alloc (Below.refl wr.heap.size wr) (.cells #[.int .i64 2, .int .u64 n1, .int .u64 n2, .int .u64 n3, .string n4] 39)
      have b3 := blk_alloc B3.out (.cells #[.int .i64 2, .int .u64 n1, .int .u64 n2, .int .u64 n3, .string n4] 39)
      have b2 := blk_alloc B2.out (.cells #[.int .i64 2, .int .u64 n1, .int .u64 n2, .int .u64 n3, .string n4] 39)
      have bn := blk_new wr (.cells #[.int .i64 2, .int .u64 n1, .int .u64 n2, .int .u64 n3, .string n4] 39)
      have hO := Kd.R_below HO.out (below_alloc (Below.refl wr.heap.size wr) (.cells #[.int .i64 2, .int .u64 n1, .int .u64 n2, .int .u64 n3, .string n4] 39))
      have HB1 := Aside0.mk (below_alloc HB.out (.cells #[.int .i64 2, .int .u64 n1, .int .u64 n2, .int .u64 n3, .string n4] 39))
      have hws := HB.out.size
      generalize hW1 : wr.alloc (.cells #[.int .i64 2, .int .u64 n1, .int .u64 n2, .int .u64 n3, .string n4] 39) = W1 at b3 b2 bn hO HB1 hb0w ⊢
      clear hW1
      have HO1 := Aside0.mk hO
      have C3 := Aside0.mk b3
      have C2 := Aside0.mk b2
      have CN := Aside0.mk bn
      clear b3 b2 bn hO e0 e1 e2 e3 e4
      have HCL := Aside0.mk (show ∀ W, Below W1.heap.size W1 W → _ from fun W hb => hCL W (below_then hb0w hb0w.size hb))
      clear hCL hb0w
      have HSS := Aside0.mk (show W1.drew.cell? ⟨wr.heap.size, 1, none⟩ = some (.int .u64 n1) ∧ W1.drew.cell? ⟨w.heap.size + 1, 2, none⟩ = some (.int .u64 base) ∧ W1.drew.cell? ⟨w.heap.size + 1, 3, none⟩ = some (.int .u64 bt) ∧ W1.drew.cell? ⟨w.heap.size + 1, 4, none⟩ = some (.string snap) ∧ W1.drew.cell? ⟨w.heap.size + 1, 5, none⟩ = some (.slice A es.length c) ∧ Below W1.heap.size W1 W1.drew from ⟨blk_cell CN.out 1, blk_cell C3.out 2, blk_cell C3.out 3, blk_cell C3.out 4, blk_cell C3.out 5, below_drew1 (Below.refl _ _)⟩)
      refine wp_region_held_drew (S := fun W' => W'.cell? ⟨wr.heap.size, 1, none⟩ = some (.int .u64 n1) ∧ W'.cell? ⟨w.heap.size + 1, 2, none⟩ = some (.int .u64 base) ∧ W'.cell? ⟨w.heap.size + 1, 3, none⟩ = some (.int .u64 bt) ∧ W'.cell? ⟨w.heap.size + 1, 4, none⟩ = some (.string snap) ∧ W'.cell? ⟨w.heap.size + 1, 5, none⟩ = some (.slice A es.length c) ∧ Below W1.heap.size W1 W') (by kernel_rfl) HSS.out (fun hHeld => ?_)
      refine wpAnyH_take (i := 0) (oi := { dst := some 27, op := Op.fieldAddr 39 (Operand.tmp 6) 1, type := 0, pos := "note.go:91", after := #[], guard := none }) (v := .pointer (some ⟨wr.heap.size, 1, none⟩)) rfl (by kernel_rfl) (by kernel_rfl) (by kernel_rfl) (fun _ _ _ h => h) (Or.inl ⟨by rfl, ?_⟩) (by assumption) ?_
      ·intro w hSw
       try dsimp only at hSw
       go_simp
       try with_reducible rfl
      try simp only [Act.put, List.setIfInBounds_toArray, List.set_cons_zero, List.set_cons_succ]
      refine wpAnyH_take (i := 1) (oi := { dst := some 28, op := Op.load 25 (Operand.tmp 27), type := 25, pos := "note.go:91", after := #[{ on := 0, ground := Ground.data }], guard := none }) (v := .int .u64 n1) rfl (by kernel_rfl) (by kernel_rfl) (by kernel_rfl) (fun _ _ _ h => h) (Or.inl ⟨by rfl, ?_⟩) (by assumption) ?_
      ·intro w hSw
       try dsimp only at hSw
       go_simp
       try with_reducible rfl
      try simp only [Act.put, List.setIfInBounds_toArray, List.set_cons_zero, List.set_cons_succ]
      refine wpAnyH_take (i := 2) (oi := { dst := some 29, op := Op.move (Operand.tmp 4), type := 72, pos := "note.go:91", after := #[], guard := none }) (v := .pointer (some ⟨w.heap.size + 1, 2, none⟩)) rfl (by kernel_rfl) (by kernel_rfl) (by kernel_rfl) (fun _ _ _ h => h) (Or.inl ⟨by rfl, ?_⟩) (by assumption) ?_
      ·intro w hSw
       try dsimp only at hSw
       go_simp
       try with_reducible rfl
      try simp only [Act.put, List.setIfInBounds_toArray, List.set_cons_zero, List.set_cons_succ]
      refine wpAnyH_take (i := 3) (oi := { dst := some 30, op := Op.nilCheck (Operand.tmp 29), type := 0, pos := "note.go:91", after := #[{ on := 2, ground := Ground.data }], guard := none }) (v := .pointer (some ⟨w.heap.size + 1, 2, none⟩)) rfl (by kernel_rfl) (by kernel_rfl) (by kernel_rfl) (fun _ _ _ h => h) (Or.inl ⟨by rfl, ?_⟩) (by assumption) ?_
      ·intro w hSw
       try dsimp only at hSw
       go_simp
       try with_reducible rfl
      try simp only [Act.put, List.setIfInBounds_toArray, List.set_cons_zero, List.set_cons_succ]
      refine wpAnyH_take (i := 4) (oi := { dst := some 31, op := Op.load 28 (Operand.tmp 30), type := 28, pos := "note.go:91", after := #[{ on := 3, ground := Ground.data }], guard := none }) (v := .agg #[.int .u64 base, .int .u64 bt, .string snap, .slice A es.length c]) rfl (by kernel_rfl) (by kernel_rfl) (by kernel_rfl) (fun _ _ _ h => h) (Or.inl ⟨by rfl, ?_⟩) (by assumption) ?_
      ·intro w hSw
       try dsimp only at hSw
       go_simp
       try with_reducible rfl
      try simp only [Act.put, List.setIfInBounds_toArray, List.set_cons_zero, List.set_cons_succ]
      refine wpAnyH_ready (rs := [5]) (by kernel_rfl) (by simp) ?_
      refine AllReadyH.cons (o := { dst := some 32, op := Op.call { callee := Callee.value (Operand.func 42), args := #[Operand.tmp 31], argTypes := #[28] }, type := 25, pos := "note.go:91", after := #[{ on := 4, ground := Ground.data }], guard := none }) rfl (fun K hK => ?_) AllReadyH.nil
      go_simp
      refine (HCL.out _ (nbel hHeld)).mono ?_
      rintro e w2 ⟨rfl, hb⟩
      go_wp2_with fail
      refine hK.out _ _ ?_ (fun hHeld => ?_)
      ·exact nkeep hHeld hb
      clear hK K
      try simp only [Act.put, List.setIfInBounds_toArray, List.set_cons_zero, List.set_cons_succ]
      refine wpAnyH_take (i := 6) (oi := { dst := some 33, op := Op.binOp BinOp.add 25 (Operand.tmp 32) (Operand.const (Value.int IntKind.u64 1)) 25, type := 25, pos := "note.go:91", after := #[{ on := 5, ground := Ground.data }], guard := none }) (v := .int .u64 L1) rfl (by kernel_rfl) (by kernel_rfl) (by kernel_rfl) (fun _ _ _ h => h) (Or.inl ⟨by rfl, ?_⟩) (by assumption) ?_
      ·intro w hSw
       try dsimp only at hSw
       go_simp
       try with_reducible rfl
      try simp only [Act.put, List.setIfInBounds_toArray, List.set_cons_zero, List.set_cons_succ]
      refine wpAnyH_take (i := 7) (oi := { dst := some 34, op := Op.binOp BinOp.eql 25 (Operand.tmp 28) (Operand.tmp 33) 25, type := 4, pos := "note.go:91", after := #[{ on := 1, ground := Ground.data }, { on := 6, ground := Ground.data }], guard := none }) (v := .bool false) rfl (by kernel_rfl) (by kernel_rfl) (by kernel_rfl) (fun _ _ _ h => h) (Or.inl ⟨by rfl, ?_⟩) (by assumption) ?_
      ·intro w hSw
       try dsimp only at hSw
       go_simp
       try with_reducible rfl
      try simp only [Act.put, List.setIfInBounds_toArray, List.set_cons_zero, List.set_cons_succ]
      refine wpAnyH_take (i := 8) (oi := { dst := some 35, op := Op.move (Operand.tmp 34), type := 4, pos := "note.go:91", after := #[{ on := 7, ground := Ground.data }, { on := 5, ground := Ground.chain }], guard := none }) (v := .bool false) rfl (by kernel_rfl) (by kernel_rfl) (by kernel_rfl) (fun _ _ _ h => h) (Or.inl ⟨by rfl, ?_⟩) (by assumption) ?_
      ·intro w hSw
       try dsimp only at hSw
       go_simp
       try with_reducible rfl
      try simp only [Act.put, List.setIfInBounds_toArray, List.set_cons_zero, List.set_cons_succ]
      refine wpAnyH_take (i := 9) (oi := { dst := some 36, op := Op.move (Operand.tmp 4), type := 72, pos := "note.go:91", after := #[{ on := 8, ground := Ground.guard }], guard := some (8, true) }) (v := undef) rfl (by kernel_rfl) (by kernel_rfl) (by kernel_rfl) (fun _ _ _ h => h) (Or.inr ⟨by rfl, rfl⟩) (by assumption) ?_
      try simp only [Act.put, List.setIfInBounds_toArray, List.set_cons_zero, List.set_cons_succ]
      refine wpAnyH_take (i := 10) (oi := { dst := some 37, op := Op.nilCheck (Operand.tmp 36), type := 0, pos := "note.go:91", after := #[{ on := 9, ground := Ground.data }, { on := 8, ground := Ground.guard }], guard := some (8, true) }) (v := undef) rfl (by kernel_rfl) (by kernel_rfl) (by kernel_rfl) (fun _ _ _ h => h) (Or.inr ⟨by rfl, rfl⟩) (by assumption) ?_
      try simp only [Act.put, List.setIfInBounds_toArray, List.set_cons_zero, List.set_cons_succ]
      refine wpAnyH_take (i := 11) (oi := { dst := some 38, op := Op.fieldAddr 28 (Operand.tmp 37) 3, type := 0, pos := "note.go:91", after := #[{ on := 10, ground := Ground.data }, { on := 8, ground := Ground.guard }], guard := some (8, true) }) (v := undef) rfl (by kernel_rfl) (by kernel_rfl) (by kernel_rfl) (fun _ _ _ h => h) (Or.inr ⟨by rfl, rfl⟩) (by assumption) ?_
      try simp only [Act.put, List.setIfInBounds_toArray, List.set_cons_zero, List.set_cons_succ]
      refine wpAnyH_take (i := 12) (oi := { dst := some 39, op := Op.load 26 (Operand.tmp 38), type := 26, pos := "note.go:91", after := #[{ on := 11, ground := Ground.data }, { on := 8, ground := Ground.guard }], guard := some (8, true) }) (v := undef) rfl (by kernel_rfl) (by kernel_rfl) (by kernel_rfl) (fun _ _ _ h => h) (Or.inr ⟨by rfl, rfl⟩) (by assumption) ?_
      try simp only [Act.put, List.setIfInBounds_toArray, List.set_cons_zero, List.set_cons_succ]
      refine wpAnyH_take (i := 13) (oi := { dst := some 40, op := Op.call { callee := Callee.builtin Builtin.len, args := #[Operand.tmp 39], argTypes := #[26] }, type := 3, pos := "note.go:91", after := #[{ on := 12, ground := Ground.data }, { on := 8, ground := Ground.guard }], guard := some (8, true) }) (v := undef) rfl (by kernel_rfl) (by kernel_rfl) (by kernel_rfl) (fun _ _ _ h => h) (Or.inr ⟨by rfl, rfl⟩) (by assumption) ?_
      try simp only [Act.put, List.setIfInBounds_toArray, List.set_cons_zero, List.set_cons_succ]
      refine wpAnyH_take (i := 14) (oi := { dst := some 41, op := Op.binOp BinOp.lss 3 (Operand.tmp 40) (Operand.const (Value.int IntKind.i64 1024)) 3, type := 4, pos := "note.go:91", after := #[{ on := 13, ground := Ground.data }, { on := 8, ground := Ground.guard }], guard := some (8, true) }) (v := undef) rfl (by kernel_rfl) (by kernel_rfl) (by kernel_rfl) (fun _ _ _ h => h) (Or.inr ⟨by rfl, rfl⟩) (by assumption) ?_
      try simp only [Act.put, List.setIfInBounds_toArray, List.set_cons_zero, List.set_cons_succ]
      refine wpAnyH_take (i := 15) (oi := { dst := some 42, op := Op.pick (Operand.tmp 35) (Operand.tmp 41) (Operand.const (Value.bool false)), type := 4, pos := "note.go:91", after := #[{ on := 8, ground := Ground.data }, { on := 14, ground := Ground.data }], guard := none }) (v := .bool false) rfl (by kernel_rfl) (by kernel_rfl) (by kernel_rfl) (fun _ _ _ h => h) (Or.inl ⟨by rfl, ?_⟩) (by assumption) ?_
      ·intro w hSw
       try dsimp only at hSw
       go_simp
       try with_reducible rfl
      try simp only [Act.put, List.setIfInBounds_toArray, List.set_cons_zero, List.set_cons_succ]
      refine wpAnyH_take (i := 16) (oi := { dst := some 43, op := Op.move (Operand.tmp 42), type := 4, pos := "note.go:91", after := #[{ on := 15, ground := Ground.data }, { on := 8, ground := Ground.chain }], guard := none }) (v := .bool false) rfl (by kernel_rfl) (by kernel_rfl) (by kernel_rfl) (fun _ _ _ h => h) (Or.inl ⟨by rfl, ?_⟩) (by assumption) ?_
      ·intro w hSw
       try dsimp only at hSw
       go_simp
       try with_reducible rfl
      try simp only [Act.put, List.setIfInBounds_toArray, List.set_cons_zero, List.set_cons_succ]
      refine wpAnyH_take (i := 17) (oi := { dst := some 44, op := Op.fieldAddr 39 (Operand.tmp 6) 1, type := 0, pos := "note.go:91", after := #[{ on := 16, ground := Ground.guard }], guard := some (16, true) }) (v := undef) rfl (by kernel_rfl) (by kernel_rfl) (by kernel_rfl) (fun _ _ _ h => h) (Or.inr ⟨by rfl, rfl⟩) (by assumption) ?_
      try simp only [Act.put, List.setIfInBounds_toArray, List.set_cons_zero, List.set_cons_succ]
      refine wpAnyH_take (i := 18) (oi := { dst := some 45, op := Op.load 25 (Operand.tmp 44), type := 25, pos := "note.go:91", after := #[{ on := 17, ground := Ground.data }, { on := 16, ground := Ground.guard }], guard := some (16, true) }) (v := undef) rfl (by kernel_rfl) (by kernel_rfl) (by kernel_rfl) (fun _ _ _ h => h) (Or.inr ⟨by rfl, rfl⟩) (by assumption) ?_
      try simp only [Act.put, List.setIfInBounds_toArray, List.set_cons_zero, List.set_cons_succ]
      refine wpAnyH_take (i := 19) (oi := { dst := some 46, op := Op.binOp BinOp.leq 25 (Operand.tmp 45) (Operand.const (Value.int IntKind.u64 1099511627776)) 25, type := 4, pos := "note.go:91", after := #[{ on := 18, ground := Ground.data }, { on := 16, ground := Ground.guard }], guard := some (16, true) }) (v := undef) rfl (by kernel_rfl) (by kernel_rfl) (by kernel_rfl) (fun _ _ _ h => h) (Or.inr ⟨by rfl, rfl⟩) (by assumption) ?_
      try simp only [Act.put, List.setIfInBounds_toArray, List.set_cons_zero, List.set_cons_succ]
      refine wpAnyH_take (i := 20) (oi := { dst := some 47, op := Op.pick (Operand.tmp 43) (Operand.tmp 46) (Operand.const (Value.bool false)), type := 4, pos := "note.go:91", after := #[{ on := 16, ground := Ground.data }, { on := 19, ground := Ground.data }], guard := none }) (v := .bool false) rfl (by kernel_rfl) (by kernel_rfl) (by kernel_rfl) (fun _ _ _ h => h) (Or.inl ⟨by rfl, ?_⟩) (by assumption) ?_
      ·intro w hSw
       try dsimp only at hSw
       go_simp
       try with_reducible rfl
      try simp only [Act.put, List.setIfInBounds_toArray, List.set_cons_zero, List.set_cons_succ]
      refine wpAnyH_done (by kernel_rfl) ?_ _
      have hE := nbel (by assumption)
      have D3 := Aside0.mk (blk_below C3.out hE)
      have D2 := Aside0.mk (blk_below C2.out hE)
      have DN := Aside0.mk (blk_below CN.out hE)
      have DO := Aside0.mk (Kd.R_below HO1.out hE)
      have DB := Aside0.mk (below_call HB1.out hE)
      clear hE
      go_wp2_with fail
      go_roundg (gk - 1)
      case measure => have := HI.out; omega
      case rel => exact ⟨i + 1, _, A, c, by first | rfl | rw [HWI.out], ⟨by have := HI.out; omega⟩, HS2, HT2, D3, D2, DO, DB⟩
    ·by_cases q3 : n0 = 3
     ·subst q3
      clear q1 q2
      by_cases qa : n1 > base
      ·skip
       obtain ⟨hb0, hb1, hl1⟩ := HS.out
       obtain ⟨hn0, hn1⟩ := (okN_iff _).1 HN.out
       dsimp only at hb0 hb1 hl1 hn0 hn1
       have hst : stepN ⟨term, vote, base, bt, snap, es⟩ ⟨3, n1, n2, n3, n4⟩ = ⟨term, vote, base, bt, snap, es.take (cutN ⟨term, vote, base, bt, snap, es⟩ ⟨3, n1, n2, n3, n4⟩)⟩ := (if_neg (show ¬ (3 : Int) = 1 by decide)).trans ((if_neg (show ¬ (3 : Int) = 2 by decide)).trans (if_pos rfl))
       have hcut : cutN ⟨term, vote, base, bt, snap, es⟩ ⟨3, n1, n2, n3, n4⟩ = (n1 - base - 1).toNat := if_pos qa
       obtain ⟨d, hd⟩ : ∃ d, n1 - base = d := ⟨_, rfl⟩
       have hw1 : IntKind.u64.wrap (n1 - base) = d := by rw [← hd]; simp [IntKind.wrap, IntKind.signed, IntKind.bits]; omega
       obtain ⟨q, hq⟩ : ∃ q : Nat, (n1 - base - 1).toNat = q := ⟨_, rfl⟩
       have hw2 : IntKind.u64.wrap (d - 1) = (q : Int) := by rw [← hq, ← hd]; simp [IntKind.wrap, IntKind.signed, IntKind.bits]; omega
       rw [hq] at hcut
       have qab : decide (n1 > base) = true := decide_eq_true qa
       have qac : decide (base < n1) = true := qab
       rw [hcut] at hst
       rw [hst] at hS2
       have hT2 := HT.out
       rw [hst] at hT2
       obtain ⟨-, hcc, -⟩ := Kd.R_reads' HO.out
       try dsimp only at hcc
       have htk : es.take q = es.take (min q es.length) := by rw [← List.take_take, List.take_length]
       rw [htk] at hS2 hT2
       obtain ⟨m, hm⟩ : ∃ m : Nat, min q es.length = m := ⟨_, rfl⟩
       rw [hm] at hS2 hT2
       obtain ⟨qi, hqi⟩ : ∃ qi : Int, (q : Int) = qi := ⟨_, rfl⟩
       rw [hqi] at hw2
       have hml : m ≤ es.length := by omega
       have hmn : (if (es.length : Int) < qi then (es.length : Int) else qi) = (m : Int) := by split <;> omega
       have hsl := eq_true (show (0 : Int) ≤ (m : Int) ∧ (m : Int) ≤ (c : Int) from ⟨by omega, by omega⟩)
       have hsm := eq_true (show m ≤ c by omega)
       have HML := Aside0.mk hml
       clear htk hml hm hd hq hqi
       have hwl : IntKind.u64.wrap (es.length : Int) = (es.length : Int) := by simp [IntKind.wrap, IntKind.signed, IntKind.bits]; omega
       have HS2 := Aside0.mk hS2
       have HT2 := Aside0.mk hT2
       clear hS2 hT2 hst hcut hcc hb0 hb1 hl1 hn0 hn1 qa
       go_wp2_with fail
       have b3 := blk_alloc B3.out (.cells #[.int .i64 3, .int .u64 n1, .int .u64 n2, .int .u64 n3, .string n4] 39)
       have b2 := blk_alloc B2.out (.cells #[.int .i64 3, .int .u64 n1, .int .u64 n2, .int .u64 n3, .string n4] 39)
       have bn := blk_new wr (.cells #[.int .i64 3, .int .u64 n1, .int .u64 n2, .int .u64 n3, .string n4] 39)
       have hO := Kd.R_below HO.out (below_alloc (Below.refl wr.heap.size wr) (.cells #[.int .i64 3, .int .u64 n1, .int .u64 n2, .int .u64 n3, .string n4] 39))
       have HB1 := Aside0.mk (below_alloc HB.out (.cells #[.int .i64 3, .int .u64 n1, .int .u64 n2, .int .u64 n3, .string n4] 39))
       have hws := HB.out.size
       have hw1 := blk_lt B3.out
       generalize hW1 : wr.alloc (.cells #[.int .i64 3, .int .u64 n1, .int .u64 n2, .int .u64 n3, .string n4] 39) = W1 at b3 b2 bn hO HB1 ⊢
       clear hW1
       have HO1 := Aside0.mk hO
       have C3 := Aside0.mk b3
       have C2 := Aside0.mk b2
       have CN := Aside0.mk bn
       clear b3 b2 bn hO e0 e1 e2 e3 e4
       have s0 := blk_cell C3.out 0
       have s1 := blk_cell C3.out 1
       have s2 := blk_cell C3.out 2
       have s3 := blk_cell C3.out 3
       have s4 := blk_cell C3.out 4
       have s5 := blk_cell C3.out 5
       have fs0 := blk_frozen C3.out 0
       have fs1 := blk_frozen C3.out 1
       have fs2 := blk_frozen C3.out 2
       have fs3 := blk_frozen C3.out 3
       have fs4 := blk_frozen C3.out 4
       have fs5 := blk_frozen C3.out 5
       have t0 := blk_cell CN.out 0
       have t1 := blk_cell CN.out 1
       have t2 := blk_cell CN.out 2
       have t3 := blk_cell CN.out 3
       have t4 := blk_cell CN.out 4
       have zl0 := blk_lt C3.out
       have zl1 := blk_lt CN.out
       go_quiet (fail)
       clear s0 fs0 s1 fs1 s2 fs2 s3 fs3 s4 fs4 s5 fs5 t0 t1 t2 t3 t4 zl0 zl1
       have z3 := blk_drewN C3.out nq
       have z2 := blk_drewN C2.out nq
       have zn := blk_drewN CN.out nq
       have zo := Kd.R_drewN HO1.out nq
       have zb := pw_below_drewN HB1.out nq
       generalize W1.drewN nq = W2 at z3 z2 zn zo zb ⊢
       have D3 := Aside0.mk z3
       have D2 := Aside0.mk z2
       have DN := Aside0.mk zn
       have DO := Aside0.mk zo
       have DB := Aside0.mk zb
       clear z3 z2 zn zo zb
       have s0 := blk_cell D3.out 0
       have s1 := blk_cell D3.out 1
       have s2 := blk_cell D3.out 2
       have s3 := blk_cell D3.out 3
       have s4 := blk_cell D3.out 4
       have s5 := blk_cell D3.out 5
       have fs0 := blk_frozen D3.out 0
       have fs1 := blk_frozen D3.out 1
       have fs2 := blk_frozen D3.out 2
       have fs3 := blk_frozen D3.out 3
       have fs4 := blk_frozen D3.out 4
       have fs5 := blk_frozen D3.out 5
       have t0 := blk_cell DN.out 0
       have t1 := blk_cell DN.out 1
       have t2 := blk_cell DN.out 2
       have t3 := blk_cell DN.out 3
       have t4 := blk_cell DN.out 4
       have zl0 := blk_lt D3.out
       have zl1 := blk_lt DN.out
       go_wp2_with fail
       go_quiet (fail)
       clear s0 fs0 s1 fs1 s2 fs2 s3 fs3 s4 fs4 s5 fs5 t0 t1 t2 t3 t4 zl0 zl1
       have z3 := blk_drewN D3.out nq
       have z2 := blk_drewN D2.out nq
       have zn := blk_drewN DN.out nq
       have zo := Kd.R_drewN DO.out nq
       have zb := pw_below_drewN DB.out nq
       generalize W2.drewN nq = W3 at z3 z2 zn zo zb ⊢
       have E3 := Aside0.mk z3
       have E2 := Aside0.mk z2
       have EN := Aside0.mk zn
       have EO := Aside0.mk zo
       have EB := Aside0.mk zb
       clear z3 z2 zn zo zb
       have s0 := blk_cell E3.out 0
       have s1 := blk_cell E3.out 1
       have s2 := blk_cell E3.out 2
       have s3 := blk_cell E3.out 3
       have s4 := blk_cell E3.out 4
       have s5 := blk_cell E3.out 5
       have fs0 := blk_frozen E3.out 0
       have fs1 := blk_frozen E3.out 1
       have fs2 := blk_frozen E3.out 2
       have fs3 := blk_frozen E3.out 3
       have fs4 := blk_frozen E3.out 4
       have fs5 := blk_frozen E3.out 5
       have t0 := blk_cell EN.out 0
       have t1 := blk_cell EN.out 1
       have t2 := blk_cell EN.out 2
       have t3 := blk_cell EN.out 3
       have t4 := blk_cell EN.out 4
       have zl0 := blk_lt E3.out
       have zl1 := blk_lt EN.out
       go_wp2_with fail
       go_region
       all_goals have hRT := Kd.R_take EO.out HML.out
       all_goals (try clear s0 fs0 s1 fs1 s2 fs2 s3 fs3 s4 fs4 s5 fs5 t0 t1 t2 t3 t4 zl0 zl1)
       all_goals have x0 := blk_put (cs' := #[.int .u64 term, .int .u64 vote, .int .u64 base, .int .u64 bt, .string snap, .slice A m c]) E3.out 5 (.slice A m c) rfl
       all_goals have y3 := (blk_drew x0)
       all_goals have y2 := (blk_drew ((Below.heap_setCell _ ⟨w.heap.size + 1, 5, none⟩ (.slice A m c) w.heap.size (by show w.heap.size ≠ w.heap.size + 1; omega)).trans E2.out))
       all_goals have yO := (Kd.R_drew (Kd.R_set hRT E3.out (by decide) 5 (.slice A m c)))
       all_goals have yB := (below_drew1 (Below.setCell (p := ⟨w.heap.size + 1, 5, none⟩) EB.out (by show w.heap.size ≤ w.heap.size + 1; omega) (.slice A m c)))
       all_goals generalize (W3.setCell ⟨w.heap.size + 1, 5, none⟩ (.slice A m c)).drew = W5 at y3 y2 yO yB ⊢
       all_goals have G3 := Aside0.mk y3
       all_goals have G2 := Aside0.mk y2
       all_goals have GO := Aside0.mk yO
       all_goals have GB := Aside0.mk yB
       all_goals clear y3 y2 yO yB x0
       all_goals go_wp2_with fail
       all_goals go_roundg (gk - 1)
       all_goals first
        | exact ⟨i + 1, _, A, c, by first | rfl | rw [HWI.out], ⟨by have := HI.out; omega⟩, HS2, HT2, ⟨by unfold stCells; dsimp only; rw [List.length_take_of_le HML.out]; exact G3.out⟩, G2, ⟨by dsimp only; rw [List.length_take_of_le HML.out]; exact GO.out⟩, GB⟩
        | (have := HI.out; omega)
      ·skip
       obtain ⟨hb0, hb1, hl1⟩ := HS.out
       obtain ⟨hn0, hn1⟩ := (okN_iff _).1 HN.out
       dsimp only at hb0 hb1 hl1 hn0 hn1
       have hst : stepN ⟨term, vote, base, bt, snap, es⟩ ⟨3, n1, n2, n3, n4⟩ = ⟨term, vote, base, bt, snap, es.take (cutN ⟨term, vote, base, bt, snap, es⟩ ⟨3, n1, n2, n3, n4⟩)⟩ := (if_neg (show ¬ (3 : Int) = 1 by decide)).trans ((if_neg (show ¬ (3 : Int) = 2 by decide)).trans (if_pos rfl))
       have hcut : cutN ⟨term, vote, base, bt, snap, es⟩ ⟨3, n1, n2, n3, n4⟩ = 0 := if_neg qa
       have qab : decide (n1 > base) = false := decide_eq_false qa
       have qac : decide (base < n1) = false := qab
       rw [hcut] at hst
       rw [hst] at hS2
       have hT2 := HT.out
       rw [hst] at hT2
       obtain ⟨-, hcc, -⟩ := Kd.R_reads' HO.out
       try dsimp only at hcc
       obtain ⟨m, hm⟩ : ∃ m : Nat, 0 = m := ⟨_, rfl⟩
       have HML := Aside0.mk (show 0 ≤ es.length by omega)
       clear hm
       have hwl : IntKind.u64.wrap (es.length : Int) = (es.length : Int) := by simp [IntKind.wrap, IntKind.signed, IntKind.bits]; omega
       have HS2 := Aside0.mk hS2
       have HT2 := Aside0.mk hT2
       clear hS2 hT2 hst hcut hcc hb0 hb1 hl1 hn0 hn1 qa
       go_wp2_with fail
       have b3 := blk_alloc B3.out (.cells #[.int .i64 3, .int .u64 n1, .int .u64 n2, .int .u64 n3, .string n4] 39)
       have b2 := blk_alloc B2.out (.cells #[.int .i64 3, .int .u64 n1, .int .u64 n2, .int .u64 n3, .string n4] 39)
       have bn := blk_new wr (.cells #[.int .i64 3, .int .u64 n1, .int .u64 n2, .int .u64 n3, .string n4] 39)
       have hO := Kd.R_below HO.out (below_alloc (Below.refl wr.heap.size wr) (.cells #[.int .i64 3, .int .u64 n1, .int .u64 n2, .int .u64 n3, .string n4] 39))
       have HB1 := Aside0.mk (below_alloc HB.out (.cells #[.int .i64 3, .int .u64 n1, .int .u64 n2, .int .u64 n3, .string n4] 39))
       have hws := HB.out.size
       have hw1 := blk_lt B3.out
       generalize hW1 : wr.alloc (.cells #[.int .i64 3, .int .u64 n1, .int .u64 n2, .int .u64 n3, .string n4] 39) = W1 at b3 b2 bn hO HB1 ⊢
       clear hW1
       have HO1 := Aside0.mk hO
       have C3 := Aside0.mk b3
       have C2 := Aside0.mk b2
       have CN := Aside0.mk bn
       clear b3 b2 bn hO e0 e1 e2 e3 e4
       have s0 := blk_cell C3.out 0
       have s1 := blk_cell C3.out 1
       have s2 := blk_cell C3.out 2
       have s3 := blk_cell C3.out 3
       have s4 := blk_cell C3.out 4
       have s5 := blk_cell C3.out 5
       have fs0 := blk_frozen C3.out 0
       have fs1 := blk_frozen C3.out 1
       have fs2 := blk_frozen C3.out 2
       have fs3 := blk_frozen C3.out 3
       have fs4 := blk_frozen C3.out 4
       have fs5 := blk_frozen C3.out 5
       have t0 := blk_cell CN.out 0
       have t1 := blk_cell CN.out 1
       have t2 := blk_cell CN.out 2
       have t3 := blk_cell CN.out 3
       have t4 := blk_cell CN.out 4
       have zl0 := blk_lt C3.out
       have zl1 := blk_lt CN.out
       go_quiet (fail)
       clear s0 fs0 s1 fs1 s2 fs2 s3 fs3 s4 fs4 s5 fs5 t0 t1 t2 t3 t4 zl0 zl1
       have z3 := blk_drewN C3.out nq
       have z2 := blk_drewN C2.out nq
       have zn := blk_drewN CN.out nq
       have zo := Kd.R_drewN HO1.out nq
       have zb := pw_below_drewN HB1.out nq
       generalize W1.drewN nq = W2 at z3 z2 zn zo zb ⊢
       have D3 := Aside0.mk z3
       have D2 := Aside0.mk z2
       have DN := Aside0.mk zn
       have DO := Aside0.mk zo
       have DB := Aside0.mk zb
       clear z3 z2 zn zo zb
       have s0 := blk_cell D3.out 0
       have s1 := blk_cell D3.out 1
       have s2 := blk_cell D3.out 2
       have s3 := blk_cell D3.out 3
       have s4 := blk_cell D3.out 4
       have s5 := blk_cell D3.out 5
       have fs0 := blk_frozen D3.out 0
       have fs1 := blk_frozen D3.out 1
       have fs2 := blk_frozen D3.out 2
       have fs3 := blk_frozen D3.out 3
       have fs4 := blk_frozen D3.out 4
       have fs5 := blk_frozen D3.out 5
       have t0 := blk_cell DN.out 0
       have t1 := blk_cell DN.out 1
       have t2 := blk_cell DN.out 2
       have t3 := blk_cell DN.out 3
       have t4 := blk_cell DN.out 4
       have zl0 := blk_lt D3.out
       have zl1 := blk_lt DN.out
       go_wp2_with fail
       go_region
       all_goals have hRT := Kd.R_take DO.out HML.out
       all_goals (try clear s0 fs0 s1 fs1 s2 fs2 s3 fs3 s4 fs4 s5 fs5 t0 t1 t2 t3 t4 zl0 zl1)
       all_goals have x0 := blk_put (cs' := #[.int .u64 term, .int .u64 vote, .int .u64 base, .int .u64 bt, .string snap, .slice A 0 c]) D3.out 5 (.slice A 0 c) rfl
       all_goals have y3 := (blk_drew x0)
       all_goals have y2 := (blk_drew ((Below.heap_setCell _ ⟨w.heap.size + 1, 5, none⟩ (.slice A 0 c) w.heap.size (by show w.heap.size ≠ w.heap.size + 1; omega)).trans D2.out))
       all_goals have yO := (Kd.R_drew (Kd.R_set hRT D3.out (by decide) 5 (.slice A 0 c)))
       all_goals have yB := (below_drew1 (Below.setCell (p := ⟨w.heap.size + 1, 5, none⟩) DB.out (by show w.heap.size ≤ w.heap.size + 1; omega) (.slice A 0 c)))
       all_goals generalize (W2.setCell ⟨w.heap.size + 1, 5, none⟩ (.slice A 0 c)).drew = W5 at y3 y2 yO yB ⊢
       all_goals have G3 := Aside0.mk y3
       all_goals have G2 := Aside0.mk y2
       all_goals have GO := Aside0.mk yO
       all_goals have GB := Aside0.mk yB
       all_goals clear y3 y2 yO yB x0
       all_goals go_wp2_with fail
       all_goals go_roundg (gk - 1)
       all_goals first
        | exact ⟨i + 1, _, A, c, by first | rfl | rw [HWI.out], ⟨by have := HI.out; omega⟩, HS2, HT2, ⟨by unfold stCells; dsimp only; rw [List.length_take_of_le HML.out]; exact G3.out⟩, G2, ⟨by dsimp only; rw [List.length_take_of_le HML.out]; exact GO.out⟩, GB⟩
        | (have := HI.out; omega)
     ·by_cases q4 : n0 = 4
      ·subst q4
       clear q1 q2 q3
       have hst : stepN ⟨term, vote, base, bt, snap, es⟩ ⟨4, n1, n2, n3, n4⟩ = behindN ⟨term, vote, base, bt, snap, es⟩ ⟨4, n1, n2, n3, n4⟩ := (if_neg (show ¬ (4 : Int) = 1 by decide)).trans ((if_neg (show ¬ (4 : Int) = 2 by decide)).trans ((if_neg (show ¬ (4 : Int) = 3 by decide)).trans (if_pos rfl)))
       have htv : (behindN ⟨term, vote, base, bt, snap, es⟩ ⟨4, n1, n2, n3, n4⟩).term = term ∧ (behindN ⟨term, vote, base, bt, snap, es⟩ ⟨4, n1, n2, n3, n4⟩).vote = vote := by unfold behindN; split <;> exact ⟨rfl, rfl⟩
       rw [hst] at hS2
       have hT2 := HT.out
       rw [hst] at hT2
       obtain ⟨-, hcc, hC⟩ := Kd.R_reads' HO.out
       have hBH : ∀ W, Below wr.heap.size wr W → Calls Try.prog 43 #[.agg #[.int .u64 base, .int .u64 bt, .string snap, .slice A es.length c], .agg #[.int .i64 4, .int .u64 n1, .int .u64 n2, .int .u64 n3, .string n4]] W fun e w' => ∃ A4 c4, e = .returned (.agg #[.int .u64 (behindN ⟨term, vote, base, bt, snap, es⟩ ⟨4, n1, n2, n3, n4⟩).base, .int .u64 (behindN ⟨term, vote, base, bt, snap, es⟩ ⟨4, n1, n2, n3, n4⟩).bt, .string (behindN ⟨term, vote, base, bt, snap, es⟩ ⟨4, n1, n2, n3, n4⟩).snap, .slice A4 (behindN ⟨term, vote, base, bt, snap, es⟩ ⟨4, n1, n2, n3, n4⟩).es.length c4]) ∧ Below W.heap.size W w' ∧ Kd.R k75 75 w' w.heap.size (fun _ => True) (.slice A4 (behindN ⟨term, vote, base, bt, snap, es⟩ ⟨4, n1, n2, n3, n4⟩).es.length c4) (behindN ⟨term, vote, base, bt, snap, es⟩ ⟨4, n1, n2, n3, n4⟩).es := fun W hbW => by
        refine (note_behind.calls ⟨term, vote, base, bt, snap, es⟩ ⟨4, n1, n2, n3, n4⟩ HS.out HN.out A c W (Kd.C_below hC hbW) hcc).mono ?_
        rintro e w' ⟨v, rfl, hb, ⟨rfl, he⟩ | ho⟩
        ·exact ⟨A, c, by rw [he], hb, by rw [he]; exact Kd.R_below (Kd.R_below HO.out hbW) hb⟩
        ·obtain ⟨A4, c4, rfl⟩ := Kd.R_slice ho
         exact ⟨A4, c4, rfl, hb, Kd.R_lower ho (Nat.le_trans HB.out.size hbW.size)⟩
       generalize behindN ⟨term, vote, base, bt, snap, es⟩ ⟨4, n1, n2, n3, n4⟩ = s' at hS2 hT2 hBH htv
       obtain ⟨term', vote', base', bt', snap', es'⟩ := s'
       obtain ⟨h1, h2⟩ := htv
       dsimp only at h1 h2 hBH
       subst h1 h2
       have HS2 := Aside0.mk hS2
       have HT2 := Aside0.mk hT2
       clear hS2 hT2 hst hcc hC
       go_wp2_with fail
       have hb0w := below_alloc (Below.refl wr.heap.size wr) (.cells #[.int .i64 4, .int .u64 n1, .int .u64 n2, .int .u64 n3, .string n4] 39)
       have b3 := blk_alloc B3.out (.cells #[.int .i64 4, .int .u64 n1, .int .u64 n2, .int .u64 n3, .string n4] 39)
       have b2 := blk_alloc B2.out (.cells #[.int .i64 4, .int .u64 n1, .int .u64 n2, .int .u64 n3, .string n4] 39)
       have bn := blk_new wr (.cells #[.int .i64 4, .int .u64 n1, .int .u64 n2, .int .u64 n3, .string n4] 39)
       have hO := Kd.R_below HO.out (below_alloc (Below.refl wr.heap.size wr) (.cells #[.int .i64 4, .int .u64 n1, .int .u64 n2, .int .u64 n3, .string n4] 39))
       have HB1 := Aside0.mk (below_alloc HB.out (.cells #[.int .i64 4, .int .u64 n1, .int .u64 n2, .int .u64 n3, .string n4] 39))
       have hws := HB.out.size
       have hw1 := blk_lt B3.out
       generalize hW1 : wr.alloc (.cells #[.int .i64 4, .int .u64 n1, .int .u64 n2, .int .u64 n3, .string n4] 39) = W1 at b3 b2 bn hO HB1 hb0w ⊢
       clear hW1
       have HO1 := Aside0.mk hO
       have C3 := Aside0.mk b3
       have C2 := Aside0.mk b2
       have CN := Aside0.mk bn
       clear b3 b2 bn hO e0 e1 e2 e3 e4
       have HBH := Aside0.mk (hBH W1.drew (below_drew1 hb0w))
       clear hBH hb0w
       have s0 := blk_cell C3.out 0
       have s1 := blk_cell C3.out 1
       have s2 := blk_cell C3.out 2
       have s3 := blk_cell C3.out 3
       have s4 := blk_cell C3.out 4
       have s5 := blk_cell C3.out 5
       have fs0 := blk_frozen C3.out 0
       have fs1 := blk_frozen C3.out 1
       have fs2 := blk_frozen C3.out 2
       have fs3 := blk_frozen C3.out 3
       have fs4 := blk_frozen C3.out 4
       have fs5 := blk_frozen C3.out 5
       have t0 := blk_cell CN.out 0
       have t1 := blk_cell CN.out 1
       have t2 := blk_cell CN.out 2
       have t3 := blk_cell CN.out 3
       have t4 := blk_cell CN.out 4
       have zl0 := blk_lt C3.out
       have zl1 := blk_lt CN.out
       go_region_law (first | (refine goes_ Try.func43 (by kernel_rfl) rfl #[.agg #[.int .u64 base, .int .u64 bt, .string snap, .slice A es.length c], .agg #[.int .i64 4, .int .u64 n1, .int .u64 n2, .int .u64 n3, .string n4]] (by rfl) rfl rfl (by (try simp only [List.map_toArray, List.map_cons, List.map_nil]); first | done | rfl) ?_; refine HBH.out.mono ?_; rintro e w4 ⟨A4, c4, rfl, hb, ho⟩; refine ⟨_, rfl, ?_⟩; have k3 := blk_below (blk_drew C3.out) hb; have k2 := blk_below (blk_drew C2.out) hb; have E3 := Aside0.mk k3; have E2 := Aside0.mk k2; have EO := Aside0.mk ho; have EB := Aside0.mk (below_call (below_drew1 HB1.out) hb); clear s0 s1 s2 s3 s4 s5 fs0 fs1 fs2 fs3 fs4 fs5; have s2 := blk_cell k3 2; have s3 := blk_cell k3 3; have s4 := blk_cell k3 4; have s5 := blk_cell k3 5; have fs2 := blk_frozen k3 2; have fs3 := blk_frozen k3 3; have fs4 := blk_frozen k3 4; have fs5 := blk_frozen k3 5; clear k3 k2 ho hb))
       all_goals have x0 := blk_put (cs' := #[.int .u64 term', .int .u64 vote', .int .u64 base', .int .u64 bt, .string snap, .slice A es.length c]) E3.out 2 (.int .u64 base') rfl
       all_goals have x1 := blk_put (cs' := #[.int .u64 term', .int .u64 vote', .int .u64 base', .int .u64 bt', .string snap, .slice A es.length c]) x0 3 (.int .u64 bt') rfl
       all_goals have x2 := blk_put (cs' := #[.int .u64 term', .int .u64 vote', .int .u64 base', .int .u64 bt', .string snap', .slice A es.length c]) x1 4 (.string snap') rfl
       all_goals have x3 := blk_put (cs' := #[.int .u64 term', .int .u64 vote', .int .u64 base', .int .u64 bt', .string snap', .slice A4 es'.length c4]) x2 5 (.slice A4 es'.length c4) rfl
       all_goals have y3 := x3
       all_goals have y2 := ((Below.heap_setCell _ ⟨w.heap.size + 1, 5, none⟩ (.slice A4 es'.length c4) w.heap.size (by show w.heap.size ≠ w.heap.size + 1; omega)).trans ((Below.heap_setCell _ ⟨w.heap.size + 1, 4, none⟩ (.string snap') w.heap.size (by show w.heap.size ≠ w.heap.size + 1; omega)).trans ((Below.heap_setCell _ ⟨w.heap.size + 1, 3, none⟩ (.int .u64 bt') w.heap.size (by show w.heap.size ≠ w.heap.size + 1; omega)).trans ((Below.heap_setCell _ ⟨w.heap.size + 1, 2, none⟩ (.int .u64 base') w.heap.size (by show w.heap.size ≠ w.heap.size + 1; omega)).trans E2.out))))
       all_goals have yO := (Kd.R_set (Kd.R_set (Kd.R_set (Kd.R_set EO.out E3.out (by decide) 2 (.int .u64 base')) x0 (by decide) 3 (.int .u64 bt')) x1 (by decide) 4 (.string snap')) x2 (by decide) 5 (.slice A4 es'.length c4))
       all_goals have yB := (Below.setCell (p := ⟨w.heap.size + 1, 5, none⟩) (Below.setCell (p := ⟨w.heap.size + 1, 4, none⟩) (Below.setCell (p := ⟨w.heap.size + 1, 3, none⟩) (Below.setCell (p := ⟨w.heap.size + 1, 2, none⟩) EB.out (by show w.heap.size ≤ w.heap.size + 1; omega) (.int .u64 base')) (by show w.heap.size ≤ w.heap.size + 1; omega) (.int .u64 bt')) (by show w.heap.size ≤ w.heap.size + 1; omega) (.string snap')) (by show w.heap.size ≤ w.heap.size + 1; omega) (.slice A4 es'.length c4))
       all_goals generalize ((((w4.setCell ⟨w.heap.size + 1, 2, none⟩ (.int .u64 base')).setCell ⟨w.heap.size + 1, 3, none⟩ (.int .u64 bt')).setCell ⟨w.heap.size + 1, 4, none⟩ (.string snap')).setCell ⟨w.heap.size + 1, 5, none⟩ (.slice A4 es'.length c4)) = W5 at y3 y2 yO yB ⊢
       all_goals have D3 := Aside0.mk y3
       all_goals have D2 := Aside0.mk y2
       all_goals have DO := Aside0.mk yO
       all_goals have DB := Aside0.mk yB
       all_goals clear y3 y2 yO yB x0 x1 x2 x3
       all_goals go_wp2_with fail
       all_goals go_roundg (gk - 1)
       all_goals first
        | exact ⟨i + 1, _, A4, c4, by first | rfl | rw [HWI.out], ⟨by have := HI.out; omega⟩, HS2, HT2, D3, D2, DO, DB⟩
        | (have := HI.out; omega)
      ·skip
       have hst : stepN ⟨term, vote, base, bt, snap, es⟩ ⟨n0, n1, n2, n3, n4⟩ = ⟨term, vote, base, bt, snap, es⟩ := (if_neg q1).trans ((if_neg q2).trans ((if_neg q3).trans (if_neg q4)))
       rw [hst] at hS2
       have hT2 := HT.out
       rw [hst] at hT2
       have HS2 := Aside0.mk hS2
       have HT2 := Aside0.mk hT2
       have q1b : (n0 == 1) = false := beq_eq_false_iff_ne.mpr q1
       have q2b : (n0 == 2) = false := beq_eq_false_iff_ne.mpr q2
       have q3b : (n0 == 3) = false := beq_eq_false_iff_ne.mpr q3
       have q4b : (n0 == 4) = false := beq_eq_false_iff_ne.mpr q4
       clear hS2 hT2 hst q1 q2 q3 q4
       go_wp2_with fail
       have b3 := blk_alloc B3.out (.cells #[.int .i64 n0, .int .u64 n1, .int .u64 n2, .int .u64 n3, .string n4] 39)
       have b2 := blk_alloc B2.out (.cells #[.int .i64 n0, .int .u64 n1, .int .u64 n2, .int .u64 n3, .string n4] 39)
       have bn := blk_new wr (.cells #[.int .i64 n0, .int .u64 n1, .int .u64 n2, .int .u64 n3, .string n4] 39)
       have hO := Kd.R_below HO.out (below_alloc (Below.refl wr.heap.size wr) (.cells #[.int .i64 n0, .int .u64 n1, .int .u64 n2, .int .u64 n3, .string n4] 39))
       have HB1 := Aside0.mk (below_alloc HB.out (.cells #[.int .i64 n0, .int .u64 n1, .int .u64 n2, .int .u64 n3, .string n4] 39))
       have hws := HB.out.size
       have hw1 := blk_lt B3.out
       generalize hW1 : wr.alloc (.cells #[.int .i64 n0, .int .u64 n1, .int .u64 n2, .int .u64 n3, .string n4] 39) = W1 at b3 b2 bn hO HB1 ⊢
       clear hW1
       have HO1 := Aside0.mk hO
       have C3 := Aside0.mk b3
       have C2 := Aside0.mk b2
       have CN := Aside0.mk bn
       clear b3 b2 bn hO e0 e1 e2 e3 e4
       go_roundg (gk - 1)
       case measure => have := HI.out; omega
       case rel => exact ⟨i + 1, _, A, c, by first | rfl | rw [HWI.out], ⟨by have := HI.out; omega⟩, HS2, HT2, C3, C2, HO1, HB1⟩
  ·have hltb := decide_eq_false hlt
   have hie : i = l0.length := by have := HI.out; omega
   have hT := HT.out
   rw [hie, List.drop_length, List.foldl_nil] at hT
   have hH := HH.out
   rw [← hT] at hH
   obtain ⟨term, vote, base, bt, snap, es⟩ := s
   unfold NSt.tup at hH
   simp only [Prod.mk.injEq] at hH
   obtain ⟨rfl, rfl, rfl, rfl, rfl, rfl⟩ := hH
   have b3 := B3.out
   unfold stCells at b3
   dsimp only at b3
   have B3 := Aside0.mk b3
   have s0 := blk_cell b3 0
   have s1 := blk_cell b3 1
   have s2 := blk_cell b3 2
   have s3 := blk_cell b3 3
   have s4 := blk_cell b3 4
   have s5 := blk_cell b3 5
   have z0 := blk_cell B2.out 0
   have z1 := blk_cell B2.out 1
   have z2 := blk_cell B2.out 2
   have z3 := blk_cell B2.out 3
   have z4 := blk_cell B2.out 4
   have z5 := blk_cell B2.out 5
   have f0 := blk_frozen B2.out 0
   have f1 := blk_frozen B2.out 1
   have f2 := blk_frozen B2.out 2
   have f3 := blk_frozen B2.out 3
   have f4 := blk_frozen B2.out 4
   have f5 := blk_frozen B2.out 5
   clear b3 hT HH HT hie
   go_wp2_with fail
   have bz := blk6 B2.out (.int .u64 term) (.int .u64 vote) (.int .u64 base) (.int .u64 bt) (.string snap) (.slice A es.length c)
   have hBl := below6 HB.out (Nat.le_refl _) (.int .u64 term) (.int .u64 vote) (.int .u64 base) (.int .u64 bt) (.string snap) (.slice A es.length c)
   have hO := r6 HO.out B2.out (by decide) (.int .u64 term) (.int .u64 vote) (.int .u64 base) (.int .u64 bt) (.string snap) (.slice A es.length c)
   generalize ((((((wr.setCell ⟨w.heap.size, 0, none⟩ (.int .u64 term)).setCell ⟨w.heap.size, 1, none⟩ (.int .u64 vote)).setCell ⟨w.heap.size, 2, none⟩ (.int .u64 base)).setCell ⟨w.heap.size, 3, none⟩ (.int .u64 bt)).setCell ⟨w.heap.size, 4, none⟩ (.string snap)).setCell ⟨w.heap.size, 5, none⟩ (.slice A es.length c)) = W4 at bz hBl hO ⊢
   have y0 := blk_cell bz 0
   have y1 := blk_cell bz 1
   have y2 := blk_cell bz 2
   have y3 := blk_cell bz 3
   have y4 := blk_cell bz 4
   have y5 := blk_cell bz 5
   refine bodyPost_ret (v := .agg #[.int .u64 term, .int .u64 vote, .int .u64 base, .int .u64 bt, .string snap, .slice A es.length c]) (by simp [results, Try.results16, go_sem, y0, y1, y2, y3, y4, y5]) rfl ?_
   exact ⟨_, rfl, hO, hBl⟩
end Go.Proofs.Ytfjhlcbpogihmaa.Pr
