/- Several texts of one depth, laid together. Conditions: none. -/
import Derived.Test.YtfjhlcbpogihmaaProg
import Derived.Below
import Derived.Deep.Draws
import Derived.Deep.AppendLies
import Derived.Maps.AppendAt
import Derived.OwnWalk
import Derived.Laws.BytesArg
import Derived.Laws.MakeOwn
import Derived.Laws.OwnMore
import Derived.Deep.OwnRows
import Derived.Tactics
import Derived.Lib.ConvBytes
import Derived.Laws.Slices
import Derived.WalkKit
import Derived.KernelRfl
import Derived.RowKit3
import Derived.Deep.LoopGhost
import Derived.Deep.QuietTactic
import Derived.BigQuiet
import Derived.WideLaws
import Derived.Deep.DeepCutAuto
import Derived.Deep.CutBlock
import Derived.Deep.RegionHeld3
import Derived.Laws.Rows
import Derived.Lib.AppendStr
import Derived.ArgAppend
import Derived.Laws.IdiomCopy
import Derived.OrdersHeld
import Derived.Laws.BitsLemmas
import Derived.RowKit
import Derived.Test.YtfjhlcbpogihmaaGNoteReadsWWords
import Derived.Test.YtfjhlcbpogihmaaGNoteReadsWLast
import Derived.Test.YtfjhlcbpogihmaaVNoteReads1
import Derived.WalkLawsBesides
import Derived.RegionTactic
import Derived.ChangeAlike
import Derived.BigRegion
import Derived.Outline
import Derived.Deep.RegionWith
import Derived.Laws.CopyOwn
import Derived.Laws.Tables
import Derived.Test.YtfjhlcbpogihmaaRows
import Derived.Deep.Slices
import Derived.Lib.SmallJoins
import Derived.ProofKit
import Derived.SizedLaws
import Derived.Laws.Bits64
import Derived.Shelf.RegionOpenPlain
import Derived.Lib.Strings
import Derived.Lib.Slices
import Derived.Lib.Walk
import Derived.Lib.Builder
import Derived.Lib.UnsafeStr
import Derived.Laws.Externs
import Derived.Lib.FrozenHead
import Derived.Laws.IdiomStrings
section
namespace Go.Proofs.Ytfjhlcbpogihmaa.Pr
open Go.RowKit Go.Proofs.YtfjhlcbpogihmaaW.PrintWords Go.Proofs.YtfjhlcbpogihmaaW.PrintLast Go.Proofs.YtfjhlcbpogihmaaW.PrintMore
attribute [local go_sem] max2_int min2_int max_two min_two max_three min_three max_four min_four
set_option linter.unusedVariables false
set_option linter.unusedSimpArgs false
def errW : Option Int → Value
  | none => .nilIface
  | some c => .iface 0 (.int .i64 c)
theorem errW_none : errW none = .nilIface := rfl
theorem errW_some (c : Int) : errW (some c) = .iface 0 (.int .i64 c) := rfl
theorem info25 : (Try.prog.info? 25).map (fun i => (i.zero, i.size, i.bytes)) = some (some (.int .u64 0), 1, 8) := by kernel_rfl
theorem info39 : (Try.prog.info? 39).map (fun i => (i.zero, i.size, i.bytes)) = some (some (.agg #[(.int .i64 0), (.int .u64 0), (.int .u64 0), (.int .u64 0), (.string ⟨#[]⟩)]), 5, 48) := by kernel_rfl
theorem info75 : (Try.prog.info? 75).map (fun i => (i.zero, i.size, i.bytes)) = some (some (.agg #[(.int .u64 0), (.string ⟨#[]⟩)]), 2, 24) := by kernel_rfl
-- the values' own types
/-! #### struct type 75 -/
structure S75 where
  f0 : Int
  f1 : ByteArray
def z75 : S75 := ⟨(0 : Int), (⟨#[]⟩ : ByteArray)⟩
def k75 : Kd S75 := Kd.iso (Kd.pair (Kd.int .u64) Kd.string) (fun x : S75 => (x.f0, x.f1))
theorem k75_open {w : World} {x : S75} {cs : List Value} (h : k75.K w x cs) : cs = [.int .u64 x.f0, .string x.f1] := by
  obtain ⟨_, _, rfl, rfl, rfl⟩ := h
  exact rfl
theorem k75_mkM (w : World) (base : Nat) (ok : Nat → Prop) (x : S75)  : k75.M w base ok x [.int .u64 x.f0, .string x.f1] := ⟨[.int .u64 x.f0], [.string x.f1], rfl, rfl, rfl⟩
def rd_T75 (xs : List S75) (i : Int) : S75 := xs.getD i.toNat z75
theorem at_T75 {w : World} {A : Option Addr} {n : Nat} {xs : List S75} (h : Kd.C k75 w A n xs) (i : Int) (h0 : 0 ≤ i) (h1 : i < n) : ∃ ad , A = some ad ∧ w.cell? (ad.add (i.toNat * 2)) = some (.int .u64 (rd_T75 xs i).f0) ∧ w.cell? ⟨(ad.add (i.toNat * 2)).block, (ad.add (i.toNat * 2)).off + 1, none⟩ = some (.string (rd_T75 xs i).f1) := by
  obtain ⟨ad, c, e, _, hK, hc0⟩ := Kd.C_get h z75 i h0 h1
  have hc : ∀ j u, c[j]? = some u → w.cell? (ad.add (i.toNat * 2 + j)) = some u := hc0
  obtain rfl := k75_open hK
  exact ⟨ad, e, hc 0 _ rfl, by rw [← add_field _ _ 1 (by omega)]; exact hc 1 _ rfl⟩
/-! #### struct type 39 -/
structure S39 where
  f0 : Int
  f1 : Int
  f2 : Int
  f3 : Int
  f4 : ByteArray
def z39 : S39 := ⟨(0 : Int), (0 : Int), (0 : Int), (0 : Int), (⟨#[]⟩ : ByteArray)⟩
def k39 : Kd S39 := Kd.iso (Kd.pair (Kd.int .i64) (Kd.pair (Kd.int .u64) (Kd.pair (Kd.int .u64) (Kd.pair (Kd.int .u64) Kd.string)))) (fun x : S39 => (x.f0, x.f1, x.f2, x.f3, x.f4))
theorem k39_open {w : World} {x : S39} {cs : List Value} (h : k39.K w x cs) : cs = [.int .i64 x.f0, .int .u64 x.f1, .int .u64 x.f2, .int .u64 x.f3, .string x.f4] := by
  obtain ⟨_, _, rfl, rfl, ⟨_, _, rfl, rfl, ⟨_, _, rfl, rfl, ⟨_, _, rfl, rfl, rfl⟩⟩⟩⟩ := h
  exact rfl
theorem k39_mkM (w : World) (base : Nat) (ok : Nat → Prop) (x : S39)  : k39.M w base ok x [.int .i64 x.f0, .int .u64 x.f1, .int .u64 x.f2, .int .u64 x.f3, .string x.f4] := ⟨[.int .i64 x.f0], [.int .u64 x.f1, .int .u64 x.f2, .int .u64 x.f3, .string x.f4], rfl, rfl, ⟨[.int .u64 x.f1], [.int .u64 x.f2, .int .u64 x.f3, .string x.f4], rfl, rfl, ⟨[.int .u64 x.f2], [.int .u64 x.f3, .string x.f4], rfl, rfl, ⟨[.int .u64 x.f3], [.string x.f4], rfl, rfl, rfl⟩⟩⟩⟩
def rd_T39 (xs : List S39) (i : Int) : S39 := xs.getD i.toNat z39
theorem at_T39 {w : World} {A : Option Addr} {n : Nat} {xs : List S39} (h : Kd.C k39 w A n xs) (i : Int) (h0 : 0 ≤ i) (h1 : i < n) : ∃ ad , A = some ad ∧ w.cell? (ad.add (i.toNat * 5)) = some (.int .i64 (rd_T39 xs i).f0) ∧ w.cell? ⟨(ad.add (i.toNat * 5)).block, (ad.add (i.toNat * 5)).off + 1, none⟩ = some (.int .u64 (rd_T39 xs i).f1) ∧ w.cell? ⟨(ad.add (i.toNat * 5)).block, (ad.add (i.toNat * 5)).off + 2, none⟩ = some (.int .u64 (rd_T39 xs i).f2) ∧ w.cell? ⟨(ad.add (i.toNat * 5)).block, (ad.add (i.toNat * 5)).off + 3, none⟩ = some (.int .u64 (rd_T39 xs i).f3) ∧ w.cell? ⟨(ad.add (i.toNat * 5)).block, (ad.add (i.toNat * 5)).off + 4, none⟩ = some (.string (rd_T39 xs i).f4) := by
  obtain ⟨ad, c, e, _, hK, hc0⟩ := Kd.C_get h z39 i h0 h1
  have hc : ∀ j u, c[j]? = some u → w.cell? (ad.add (i.toNat * 5 + j)) = some u := hc0
  obtain rfl := k39_open hK
  exact ⟨ad, e, hc 0 _ rfl, by rw [← add_field _ _ 1 (by omega)]; exact hc 1 _ rfl, by rw [← add_field _ _ 2 (by omega)]; exact hc 2 _ rfl, by rw [← add_field _ _ 3 (by omega)]; exact hc 3 _ rfl, by rw [← add_field _ _ 4 (by omega)]; exact hc 4 _ rfl⟩
/-! #### struct type 28 -/
structure S28 where
  f0 : Int
  f1 : Int
  f2 : ByteArray
  f3 : (List S75)
/-! #### struct type 30 -/
structure S30 where
  f0 : Int
  f1 : Int
  f2 : S28
/-! #### struct type 34 -/
structure S34 where
  f0 : ByteArray
  f1 : ByteArray
  f2 : Int
  f3 : Bool
/-! #### struct type 57 -/
structure S57 where
  f0 : Int
  f1 : Int
  f2 : Int
  f3 : Int
  f4 : Int
  f5 : Int
  f6 : Int
  f7 : Bool
  f8 : (List S75)
  f9 : ByteArray
end Go.Proofs.Ytfjhlcbpogihmaa.Pr
end
section
namespace Go.Proofs.Ytfjhlcbpogihmaa.Pr
open Go.RowKit Go.Proofs.YtfjhlcbpogihmaaW.PrintWords Go.Proofs.YtfjhlcbpogihmaaW.PrintLast Go.Proofs.YtfjhlcbpogihmaaW.PrintMore
set_option linter.unusedVariables false
/-- A stable state. -/
structure NSt where
  term : Int
  vote : Int
  base : Int
  bt : Int
  snap : ByteArray
  es : List S75
def nst0 : NSt := ⟨0, 0, 0, 0, ⟨#[]⟩, []⟩
def isNext (s : NSt) (n : S39) : Prop := n.f1 = s.base + s.es.length + 1 ∧ s.es.length < 1024 ∧ n.f1 ≤ 1099511627776
instance (s : NSt) (n : S39) : Decidable (isNext s n) := by unfold isNext; infer_instance
def hasAt (s : NSt) (n : S39) : Prop := n.f1 - s.base ≤ s.es.length ∧ (rd_T75 s.es (n.f1 - s.base - 1)).f0 = n.f2
instance (s : NSt) (n : S39) : Decidable (hasAt s n) := by unfold hasAt; infer_instance
def cutN (s : NSt) (n : S39) : Nat := if n.f1 > s.base then (n.f1 - s.base - 1).toNat else 0
/-- A state behind a snapshot. -/
def behindN (s : NSt) (n : S39) : NSt :=
  if n.f1 ≤ s.base ∨ n.f1 > 1099511627776 then s else { s with base := n.f1, bt := n.f2, snap := n.f4, es := if hasAt s n then s.es.drop (n.f1 - s.base).toNat else [] }
/-- A state behind one note more. -/
def stepN (s : NSt) (n : S39) : NSt :=
  if n.f0 = 1 then { s with term := n.f2, vote := n.f3 }
  else if n.f0 = 2 then (if isNext s n then { s with es := s.es ++ [⟨n.f2, n.f4⟩] } else s)
  else if n.f0 = 3 then { s with es := s.es.take (cutN s n) }
  else if n.f0 = 4 then behindN s n
  else s
def foldN (l : List S39) : NSt := l.foldl stepN nst0
def NSt.tup (s : NSt) : Int × Int × Int × Int × ByteArray × List S75 := (s.term, s.vote, s.base, s.bt, s.snap, s.es)
def okN (n : S39) : Bool := decide (0 ≤ n.f1) && decide (n.f1 < 18446744073709551616)
structure okS (s : NSt) : Prop where
  b0 : 0 ≤ s.base
  b1 : s.base ≤ 1099511627776
  l1 : s.es.length ≤ 1024
theorem okN_iff (n : S39) : okN n = true ↔ 0 ≤ n.f1 ∧ n.f1 < 18446744073709551616 := by
  unfold okN
  rw [Bool.and_eq_true, decide_eq_true_iff, decide_eq_true_iff]
theorem okS_step {s : NSt} {n : S39} (h : okS s) (hn : okN n = true) : okS (stepN s n) := by
  obtain ⟨h0, h1⟩ := (okN_iff n).1 hn
  obtain ⟨b0, b1, l1⟩ := h
  unfold stepN
  split
  · exact ⟨b0, b1, l1⟩
  split
  · split
    · rename_i h
      exact ⟨b0, b1, by rw [List.length_append, List.length_singleton]; have := h.2.1; omega⟩
    · exact ⟨b0, b1, l1⟩
  split
  · exact ⟨b0, b1, by rw [List.length_take]; omega⟩
  split
  · unfold behindN
    split
    · exact ⟨b0, b1, l1⟩
    · rename_i h
      refine ⟨by dsimp only; omega, by dsimp only; omega, ?_⟩
      dsimp only
      split
      · rw [List.length_drop]; omega
      · simp
  · exact ⟨b0, b1, l1⟩
theorem okS_0 : okS nst0 := ⟨by decide, by decide, by decide⟩
end Go.Proofs.Ytfjhlcbpogihmaa.Pr
end
section
namespace Go.Proofs.Ytfjhlcbpogihmaa.Hnd
open Go.RowKit Go.Proofs.YtfjhlcbpogihmaaW.PrintWords
theorem setCell_drewN_ (w : World) (n : Nat) (p : Addr) (v : Value) : (w.drewN n).setCell p v = (w.setCell p v).drewN n := rfl
theorem alloc_drewN_ (w : World) (n : Nat) (o : Obj) : (w.drewN n).alloc o = (w.alloc o).drewN n := rfl
theorem below_call {w W w2 : World} (h : Below w.heap.size w W) (hb : Below W.heap.size W w2) : Below w.heap.size w w2 := h.trans (hb.mono h.size)
end Go.Proofs.Ytfjhlcbpogihmaa.Hnd
end
section
namespace Go.Proofs.Ytfjhlcbpogihmaa.Pr
open Go.RowKit Go.Proofs.YtfjhlcbpogihmaaW.PrintWords Go.Proofs.YtfjhlcbpogihmaaW.PrintLast Go.Proofs.YtfjhlcbpogihmaaW.PrintMore
open Go.Proofs.Ytfjhlcbpogihmaa.Hnd
attribute [local go_sem] setCell_drewN_ alloc_drewN_
set_option linter.unusedVariables false
set_option linter.unusedSimpArgs false
theorem nil_eq (A : Option Addr) (n c : Nat) (w : World) : (binOp .eql 26 (.slice A n c) (.slice none 0 0)).run Try.prog w = .ok (.bool A.isNone) w := by
  cases A <;> kernel_rfl
attribute [local go_sem high] nil_eq
def slices_Clone.f (l0 : List S75) : Option (List S75) := if l0.length < 5864062014805 then some l0 else none
set_option maxHeartbeats 1000000 in
set_option maxRecDepth 100000 in
theorem slices_Clone.calls (A0 : Option Addr) (c0 : Nat) (l0 : List S75) (r : List S75) (w : World) (hr0 : Kd.C k75 w A0 l0.length l0) (hc0 : l0.length ≤ c0) (h : slices_Clone.f l0 = some r) :
    Calls Try.prog 77 #[.slice A0 l0.length c0] w fun e w' => ∃ v0_ : Value, e = .returned (v0_) ∧ Kd.R k75 75 w' w.heap.size (fun _ => True) v0_ r ∧ Below w.heap.size w w' := by
  unfold slices_Clone.f at h
  by_cases hs : l0.length < 5864062014805
  rotate_left
  · rw [if_neg hs] at h; cases h
  rw [if_pos hs] at h
  obtain rfl := Option.some.inj h
  clear h
  have HS := Aside0.mk hs
  have HR := Aside0.mk hr0
  cases A0 with
  | none =>
    have h0 : l0 = [] := by
      by_cases hz : 0 < l0.length
      · obtain ⟨ad, ha, _⟩ := hr0.2.2 hz
        cases ha
      · exact List.eq_nil_of_length_eq_zero (by omega)
    subst h0
    clear hr0 hs
    go_enter Try.func77, Try.ntmps77
    go_wp2
    go_ret
    exact ⟨_, rfl, Kd.R_nil _ _ _ _ _, Below.refl _ _⟩
  | some ad =>
    clear hr0 hs
    go_enter Try.func77, Try.ntmps77
    go_wp2_with (first
      | ((with_reducible refine gate_dst (N := 5) rfl ?_); refine Kd.R_lit k75 (w0 := w) w.heap.size 75 ?hg (N := 5) ?hd (xs := ([] : List S75)) (inner := []) (ok := fun _ => True) (okp := fun _ => True) ?hr ?hp (fun _ hk => hk) trivial (Below.refl _ _) (Nat.le_refl _) (by simp) ?_; (case hd => rfl); (case hg => rfl); (case hr => first | (go_simp; done) | (go_simp; rfl)); (case hp => exact (Reps.none _ _)); intro v1 w1 ho hb hg_ hnew_; have HO := Aside0.mk ho; have HB := Aside0.mk hb; clear ho hb hg_ hnew_)
      | ((with_reducible refine gate_builtin (b := .append) (xs := #[.tmp 5, .tmp 6]) rfl ?_); (try (refine gate_guard (by rfl) ?_; dsimp only)); at_builtin; refine Kd.R_append_rows k75 (w0 := w) w.heap.size rfl (.tmp 5) (.tmp 6) 26 75 (.agg #[(.int .u64 0), (.string ⟨#[]⟩)]) 24 rfl Try.underlying26 info75 rfl (by decide) (by omega) _ ([] : List S75) l0 _ _ _ (fun _ => True) (fun _ => False) rfl rfl ?aO ?aR (fun _ _ h => h) (fun _ h => h.elim) (fun _ _ => trivial) ?aB ?aS ?aL ?_; (case aR => exact Kd.C_below HR.out HB.out); (case aB => exact HB.out); (case aO => exact HO.out); (case aS => exact HB.out.size); (case aL => have := HS.out; simp only [List.length_nil]; omega); intro v2 w2 ho hb hg hat; have HO2 := Aside0.mk ho; have HB2 := Aside0.mk hb; clear ho hb hg hat))
    go_ret
    exact ⟨_, rfl, HO2.out, HB2.out⟩
end Go.Proofs.Ytfjhlcbpogihmaa.Pr
end
section
namespace Go.Proofs.Ytfjhlcbpogihmaa.Pr
open Go.RowKit Go.Proofs.YtfjhlcbpogihmaaW.PrintWords Go.Proofs.YtfjhlcbpogihmaaW.PrintLast Go.Proofs.YtfjhlcbpogihmaaW.PrintMore
open Go.Proofs.Ytfjhlcbpogihmaa.Hnd
attribute [local go_sem] setCell_drewN_ alloc_drewN_
set_option linter.unusedVariables false
set_option linter.unusedSimpArgs false
theorem blk4 {w : World} {g : Nat} {t : TypeId} {a0 a1 a2 a3 : Value} (h : w.heap[g]? = some (.cells #[a0, a1, a2, a3] t (0, 0))) (b0 b1 b2 b3 : Value) :
    ((((w.setCell ⟨g, 0, none⟩ b0).setCell ⟨g, 1, none⟩ b1).setCell ⟨g, 2, none⟩ b2).setCell ⟨g, 3, none⟩ b3).heap[g]? = some (.cells #[b0, b1, b2, b3] t (0, 0)) := by
  have h0 := blk_put (cs' := #[b0, a1, a2, a3]) h 0 b0 rfl
  have h1 := blk_put (cs' := #[b0, b1, a2, a3]) h0 1 b1 rfl
  have h2 := blk_put (cs' := #[b0, b1, b2, a3]) h1 2 b2 rfl
  exact blk_put (cs' := #[b0, b1, b2, b3]) h2 3 b3 rfl
theorem below4 {w W : World} {g : Nat} (h : Below w.heap.size w W) (hg : w.heap.size ≤ g) (b0 b1 b2 b3 : Value) :
    Below w.heap.size w ((((W.setCell ⟨g, 0, none⟩ b0).setCell ⟨g, 1, none⟩ b1).setCell ⟨g, 2, none⟩ b2).setCell ⟨g, 3, none⟩ b3) := below_set (below_set (below_set (below_set h hg) hg) hg) hg
theorem r4 {w : World} {g base : Nat} {t : TypeId} {a0 a1 a2 a3 : Value} {ok : Nat → Prop} {v : Value} {xs : List S75} (hr : Kd.R k75 75 w base ok v xs) (h : w.heap[g]? = some (.cells #[a0, a1, a2, a3] t (0, 0))) (ht : ∀ q, q ∈ 75 :: k75.E → q ≠ t) (b0 b1 b2 b3 : Value) :
    Kd.R k75 75 ((((w.setCell ⟨g, 0, none⟩ b0).setCell ⟨g, 1, none⟩ b1).setCell ⟨g, 2, none⟩ b2).setCell ⟨g, 3, none⟩ b3) base ok v xs := by
  have h0 := blk_put (cs' := #[b0, a1, a2, a3]) h 0 b0 rfl
  have h1 := blk_put (cs' := #[b0, b1, a2, a3]) h0 1 b1 rfl
  have h2 := blk_put (cs' := #[b0, b1, b2, a3]) h1 2 b2 rfl
  exact Kd.R_set (Kd.R_set (Kd.R_set (Kd.R_set hr h ht 0 b0) h0 ht 1 b1) h1 ht 2 b2) h2 ht 3 b3
set_option maxHeartbeats 2000000 in
set_option maxRecDepth 100000 in
theorem note_behind.calls (s : NSt) (n : S39) (hs : okS s) (hn : okN n = true) (A : Option Addr) (c : Nat) (w : World) (hr : Kd.C k75 w A s.es.length s.es) (hc : s.es.length ≤ c) :
    Calls Try.prog 43 #[.agg #[.int .u64 s.base, .int .u64 s.bt, .string s.snap, .slice A s.es.length c], .agg #[.int .i64 n.f0, .int .u64 n.f1, .int .u64 n.f2, .int .u64 n.f3, .string n.f4]] w fun e w' =>
      ∃ v : Value, e = .returned (.agg #[.int .u64 (behindN s n).base, .int .u64 (behindN s n).bt, .string (behindN s n).snap, v]) ∧ Below w.heap.size w w' ∧ ((v = .slice A s.es.length c ∧ (behindN s n).es = s.es) ∨ Kd.R k75 75 w' w.heap.size (fun _ => True) v (behindN s n).es) := by
  obtain ⟨h0, h1⟩ := (okN_iff n).1 hn
  obtain ⟨b0, b1, l1⟩ := hs
  have HR := Aside0.mk hr
  have HC := Aside0.mk hc
  clear hn hr hc
  obtain ⟨term, vote, base, bt, snap, es⟩ := s
  obtain ⟨n0, n1, n2, n3, n4⟩ := n
  dsimp only at h0 h1 b0 b1 l1 HR HC ⊢
  by_cases hq : n1 ≤ base ∨ n1 > 1099511627776
  · have e1 : behindN ⟨term, vote, base, bt, snap, es⟩ ⟨n0, n1, n2, n3, n4⟩ = ⟨term, vote, base, bt, snap, es⟩ := if_pos hq
    rw [e1]
    by_cases hq1 : n1 ≤ base
    · have hb1 := decide_eq_true hq1
      clear hq hq1
      go_enter Try.func43, Try.ntmps43
      go_wp2_with fail
      refine bodyPost_ret (v := .agg #[.int .u64 base, .int .u64 bt, .string snap, .slice A es.length c]) (by simp [results, Try.results43, go_sem]) rfl ?_
      refine ⟨_, rfl, ?_, .inl ⟨rfl, trivial⟩⟩
      exact below_alloc (below_alloc (below_alloc (Below.refl _ _) _) _) _
    · have hb1 := decide_eq_false hq1
      have hb2 : decide (n1 > 1099511627776) = true := decide_eq_true (by omega)
      have hb3 : decide (1099511627776 < n1) = true := hb2
      clear hq hq1
      go_enter Try.func43, Try.ntmps43
      go_wp2_with fail
      refine bodyPost_ret (v := .agg #[.int .u64 base, .int .u64 bt, .string snap, .slice A es.length c]) (by simp [results, Try.results43, go_sem]) rfl ?_
      refine ⟨_, rfl, ?_, .inl ⟨rfl, trivial⟩⟩
      exact below_alloc (below_alloc (below_alloc (Below.refl _ _) _) _) _
  · have hq1 : ¬ n1 ≤ base := fun h => hq (.inl h)
    have hq2 : ¬ n1 > 1099511627776 := fun h => hq (.inr h)
    have e1 : behindN ⟨term, vote, base, bt, snap, es⟩ ⟨n0, n1, n2, n3, n4⟩ = ⟨term, vote, n1, n2, n4, if hasAt ⟨term, vote, base, bt, snap, es⟩ ⟨n0, n1, n2, n3, n4⟩ then es.drop (n1 - base).toNat else []⟩ := if_neg hq
    rw [e1]
    clear e1 hq
    have hb1 := decide_eq_false hq1
    have hb2 : decide (n1 > 1099511627776) = false := decide_eq_false hq2
    have hb3 : decide (1099511627776 < n1) = false := hb2
    obtain ⟨d, hd⟩ : ∃ d, n1 - base = d := ⟨_, rfl⟩
    have hw : IntKind.u64.wrap (n1 - base) = d := by rw [← hd]; simp [IntKind.wrap, IntKind.signed, IntKind.bits]; omega
    have hwl : IntKind.u64.wrap (es.length : Int) = (es.length : Int) := by simp [IntKind.wrap, IntKind.signed, IntKind.bits]; omega
    obtain ⟨x, hx⟩ : ∃ x, d - 1 = x := ⟨_, rfl⟩
    have hw1 : IntKind.u64.wrap (d - 1) = x := by rw [← hx]; simp [IntKind.wrap, IntKind.signed, IntKind.bits]; omega
    by_cases hk : d ≤ (es.length : Int)
    · have hkb := decide_eq_true hk
      obtain ⟨ad, rfl, q0, q1⟩ := at_T75 HR.out x (by omega) (by omega)
      have p2 := eq_true (show 0 ≤ x by omega)
      have p3 := eq_true (show x < (es.length : Int) by omega)
      have HD := Aside0.mk (show 1 ≤ d ∧ d ≤ (es.length : Int) from ⟨by omega, hk⟩)
      by_cases ht : (rd_T75 es x).f0 = n2
      · have e2 : (if hasAt ⟨term, vote, base, bt, snap, es⟩ ⟨n0, n1, n2, n3, n4⟩ then es.drop (n1 - base).toNat else []) = es.drop d.toNat := by
          rw [if_pos (show hasAt _ _ from ⟨by dsimp only; omega, by dsimp only; rw [hd, hx]; exact ht⟩), hd]
        rw [e2]
        have htb : ((rd_T75 es x).f0 == n2) = true := beq_iff_eq.mpr ht
        clear e2 hd hx hk hq1 hq2 ht
        go_enter Try.func43, Try.ntmps43
        go_wp2_with fail
        have k0 := blk_alloc (blk_alloc (blk_new w (.cells #[.int .u64 base, .int .u64 bt, .string snap, .slice (some ad) es.length c] 28)) (.cells #[.int .i64 n0, .int .u64 n1, .int .u64 n2, .int .u64 n3, .string n4] 39)) (.cells #[.int .u64 0, .int .u64 0, .string ⟨#[]⟩, .slice none 0 0] 28)
        have k1 := blk_alloc (blk_new (w.alloc (.cells #[.int .u64 base, .int .u64 bt, .string snap, .slice (some ad) es.length c] 28)) (.cells #[.int .i64 n0, .int .u64 n1, .int .u64 n2, .int .u64 n3, .string n4] 39)) (.cells #[.int .u64 0, .int .u64 0, .string ⟨#[]⟩, .slice none 0 0] 28)
        have k2 := blk_new ((w.alloc (.cells #[.int .u64 base, .int .u64 bt, .string snap, .slice (some ad) es.length c] 28)).alloc (.cells #[.int .i64 n0, .int .u64 n1, .int .u64 n2, .int .u64 n3, .string n4] 39)) (.cells #[.int .u64 0, .int .u64 0, .string ⟨#[]⟩, .slice none 0 0] 28)
        simp only [World.size_alloc] at k1 k2
        have HB := Aside0.mk (show Below w.heap.size w (((w.alloc (.cells #[.int .u64 base, .int .u64 bt, .string snap, .slice (some ad) es.length c] 28)).alloc (.cells #[.int .i64 n0, .int .u64 n1, .int .u64 n2, .int .u64 n3, .string n4] 39)).alloc (.cells #[.int .u64 0, .int .u64 0, .string ⟨#[]⟩, .slice none 0 0] 28)) from below_alloc (below_alloc (below_alloc (Below.refl _ _) _) _) _)
        generalize (((w.alloc (.cells #[.int .u64 base, .int .u64 bt, .string snap, .slice (some ad) es.length c] 28)).alloc (.cells #[.int .i64 n0, .int .u64 n1, .int .u64 n2, .int .u64 n3, .string n4] 39)).alloc (.cells #[.int .u64 0, .int .u64 0, .string ⟨#[]⟩, .slice none 0 0] 28)) = W0 at k0 k1 k2 HB ⊢
        have K0 := Aside0.mk k0
        have K1 := Aside0.mk k1
        have K2 := Aside0.mk k2
        have HR0 := Aside0.mk (Kd.C_below HR.out HB.out)
        have c3 := blk_cell k0 3
        have d1 := blk_cell k1 1
        have d2 := blk_cell k1 2
        have d4 := blk_cell k1 4
        replace q0 := (HB.out.cell (World.block_lt_of_cell? w _ q0)).trans q0
        replace q1 := (HB.out.cell (World.block_lt_of_cell? w _ q1)).trans q1
        clear k0 k1 k2
        go_quiet (fail)
        have k0 := blk_drewN K0.out nq
        have k1 := blk_drewN K1.out nq
        have k2 := blk_drewN K2.out nq
        have HB1 := Aside0.mk (pw_below_drewN HB.out nq)
        have HR1 := Aside0.mk (Kd.C_drewN HR0.out nq)
        generalize W0.drewN nq = W1 at k0 k1 k2 HB1 HR1 ⊢
        have c3 := blk_cell k0 3
        have d1 := blk_cell k1 1
        have d2 := blk_cell k1 2
        have d4 := blk_cell k1 4
        have f0 := blk_frozen k2 0
        have f1 := blk_frozen k2 1
        have f2 := blk_frozen k2 2
        have f3 := blk_frozen k2 3
        have z0 := blk_cell k2 0
        have z1 := blk_cell k2 1
        have z2 := blk_cell k2 2
        have z3 := blk_cell k2 3
        have zl := blk_lt k2
        have K1 := Aside0.mk k1
        have K2 := Aside0.mk k2
        clear k0 k1 k2 q0 q1 HB HR HR0
        have hsl := eq_true (show 0 ≤ d ∧ d ≤ (es.length : Int) from ⟨by have := HD.out; omega, HD.out.2⟩)
        have hdn : d.toNat ≤ es.length := by have := HD.out; omega
        have hC2 := Kd.C_drop (m := d.toNat) HR1.out hdn HC.out
        have hcall := slices_Clone.calls _ (c - d.toNat) (es.drop d.toNat) (es.drop d.toNat) W1 hC2 (by rw [List.length_drop]; have := HC.out; omega) (by unfold slices_Clone.f; rw [if_pos (by rw [List.length_drop]; omega)])
        rw [List.length_drop] at hcall
        by_cases hcd : c = d.toNat
        · rw [if_pos hcd, show c - d.toNat = 0 from by omega] at hcall
          have HCALL := Aside0.mk hcall
          have hcd2 := eq_true hcd
          clear hcall hC2 hdn
          go_wp2_with fail
          refine HCALL.out.mono ?_
          rintro e w2 ⟨v2, rfl, ho, hb⟩
          have k1 := blk_below K1.out hb
          have k2 := blk_below K2.out hb
          have HB2 := Aside0.mk (below_call HB1.out hb)
          have HO := Aside0.mk (Kd.R_lower ho HB1.out.size)
          have d1 := blk_cell k1 1
          have d2 := blk_cell k1 2
          have d4 := blk_cell k1 4
          have f0 := blk_frozen k2 0
          have f1 := blk_frozen k2 1
          have f2 := blk_frozen k2 2
          have f3 := blk_frozen k2 3
          have z0 := blk_cell k2 0
          have z1 := blk_cell k2 1
          have z2 := blk_cell k2 2
          have z3 := blk_cell k2 3
          have zl := blk_lt k2
          have K2 := Aside0.mk k2
          obtain ⟨A2, c2, e2⟩ := Kd.R_slice HO.out
          rw [List.length_drop] at e2
          subst e2
          clear k1 k2 ho hb
          go_wp2_with fail
          have bz := blk4 K2.out (.int .u64 n1) (.int .u64 n2) (.string n4) (.slice A2 (es.length - d.toNat) c2)
          have hBl := below4 (g := w.heap.size + 1 + 1) HB2.out (by omega) (.int .u64 n1) (.int .u64 n2) (.string n4) (.slice A2 (es.length - d.toNat) c2)
          have hO := r4 HO.out K2.out (by decide) (.int .u64 n1) (.int .u64 n2) (.string n4) (.slice A2 (es.length - d.toNat) c2)
          generalize ((((w2.setCell ⟨w.heap.size + 1 + 1, 0, none⟩ (.int .u64 n1)).setCell ⟨w.heap.size + 1 + 1, 1, none⟩ (.int .u64 n2)).setCell ⟨w.heap.size + 1 + 1, 2, none⟩ (.string n4)).setCell ⟨w.heap.size + 1 + 1, 3, none⟩ (.slice A2 (es.length - d.toNat) c2)) = W4 at bz hBl hO ⊢
          have y0 := blk_cell bz 0
          have y1 := blk_cell bz 1
          have y2 := blk_cell bz 2
          have y3 := blk_cell bz 3
          refine bodyPost_ret (v := .agg #[.int .u64 n1, .int .u64 n2, .string n4, .slice A2 (es.length - d.toNat) c2]) (by simp [results, Try.results43, go_sem, y0, y1, y2, y3]) rfl ?_
          exact ⟨_, rfl, hBl, .inr hO⟩
        · rw [if_neg hcd] at hcall
          have HCALL := Aside0.mk hcall
          have hcd2 := eq_false hcd
          clear hcall hC2 hdn
          go_wp2_with fail
          refine HCALL.out.mono ?_
          rintro e w2 ⟨v2, rfl, ho, hb⟩
          have k1 := blk_below K1.out hb
          have k2 := blk_below K2.out hb
          have HB2 := Aside0.mk (below_call HB1.out hb)
          have HO := Aside0.mk (Kd.R_lower ho HB1.out.size)
          have d1 := blk_cell k1 1
          have d2 := blk_cell k1 2
          have d4 := blk_cell k1 4
          have f0 := blk_frozen k2 0
          have f1 := blk_frozen k2 1
          have f2 := blk_frozen k2 2
          have f3 := blk_frozen k2 3
          have z0 := blk_cell k2 0
          have z1 := blk_cell k2 1
          have z2 := blk_cell k2 2
          have z3 := blk_cell k2 3
          have zl := blk_lt k2
          have K2 := Aside0.mk k2
          obtain ⟨A2, c2, e2⟩ := Kd.R_slice HO.out
          rw [List.length_drop] at e2
          subst e2
          clear k1 k2 ho hb
          go_wp2_with fail
          have bz := blk4 K2.out (.int .u64 n1) (.int .u64 n2) (.string n4) (.slice A2 (es.length - d.toNat) c2)
          have hBl := below4 (g := w.heap.size + 1 + 1) HB2.out (by omega) (.int .u64 n1) (.int .u64 n2) (.string n4) (.slice A2 (es.length - d.toNat) c2)
          have hO := r4 HO.out K2.out (by decide) (.int .u64 n1) (.int .u64 n2) (.string n4) (.slice A2 (es.length - d.toNat) c2)
          generalize ((((w2.setCell ⟨w.heap.size + 1 + 1, 0, none⟩ (.int .u64 n1)).setCell ⟨w.heap.size + 1 + 1, 1, none⟩ (.int .u64 n2)).setCell ⟨w.heap.size + 1 + 1, 2, none⟩ (.string n4)).setCell ⟨w.heap.size + 1 + 1, 3, none⟩ (.slice A2 (es.length - d.toNat) c2)) = W4 at bz hBl hO ⊢
          have y0 := blk_cell bz 0
          have y1 := blk_cell bz 1
          have y2 := blk_cell bz 2
          have y3 := blk_cell bz 3
          refine bodyPost_ret (v := .agg #[.int .u64 n1, .int .u64 n2, .string n4, .slice A2 (es.length - d.toNat) c2]) (by simp [results, Try.results43, go_sem, y0, y1, y2, y3]) rfl ?_
          exact ⟨_, rfl, hBl, .inr hO⟩
      · have e2 : (if hasAt ⟨term, vote, base, bt, snap, es⟩ ⟨n0, n1, n2, n3, n4⟩ then es.drop (n1 - base).toNat else []) = [] := by
          rw [if_neg (fun h : hasAt _ _ => ht (by have := h.2; dsimp only at this; rw [hd, hx] at this; exact this))]
        rw [e2]
        have htb : ((rd_T75 es x).f0 == n2) = false := beq_eq_false_iff_ne.mpr ht
        clear e2 hd hx hk hq1 hq2 ht
        go_enter Try.func43, Try.ntmps43
        go_wp2_with fail
        have k0 := blk_alloc (blk_alloc (blk_new w (.cells #[.int .u64 base, .int .u64 bt, .string snap, .slice (some ad) es.length c] 28)) (.cells #[.int .i64 n0, .int .u64 n1, .int .u64 n2, .int .u64 n3, .string n4] 39)) (.cells #[.int .u64 0, .int .u64 0, .string ⟨#[]⟩, .slice none 0 0] 28)
        have k1 := blk_alloc (blk_new (w.alloc (.cells #[.int .u64 base, .int .u64 bt, .string snap, .slice (some ad) es.length c] 28)) (.cells #[.int .i64 n0, .int .u64 n1, .int .u64 n2, .int .u64 n3, .string n4] 39)) (.cells #[.int .u64 0, .int .u64 0, .string ⟨#[]⟩, .slice none 0 0] 28)
        have k2 := blk_new ((w.alloc (.cells #[.int .u64 base, .int .u64 bt, .string snap, .slice (some ad) es.length c] 28)).alloc (.cells #[.int .i64 n0, .int .u64 n1, .int .u64 n2, .int .u64 n3, .string n4] 39)) (.cells #[.int .u64 0, .int .u64 0, .string ⟨#[]⟩, .slice none 0 0] 28)
        simp only [World.size_alloc] at k1 k2
        have HB := Aside0.mk (show Below w.heap.size w (((w.alloc (.cells #[.int .u64 base, .int .u64 bt, .string snap, .slice (some ad) es.length c] 28)).alloc (.cells #[.int .i64 n0, .int .u64 n1, .int .u64 n2, .int .u64 n3, .string n4] 39)).alloc (.cells #[.int .u64 0, .int .u64 0, .string ⟨#[]⟩, .slice none 0 0] 28)) from below_alloc (below_alloc (below_alloc (Below.refl _ _) _) _) _)
        generalize (((w.alloc (.cells #[.int .u64 base, .int .u64 bt, .string snap, .slice (some ad) es.length c] 28)).alloc (.cells #[.int .i64 n0, .int .u64 n1, .int .u64 n2, .int .u64 n3, .string n4] 39)).alloc (.cells #[.int .u64 0, .int .u64 0, .string ⟨#[]⟩, .slice none 0 0] 28)) = W0 at k0 k1 k2 HB ⊢
        have K0 := Aside0.mk k0
        have K1 := Aside0.mk k1
        have K2 := Aside0.mk k2
        have HR0 := Aside0.mk (Kd.C_below HR.out HB.out)
        have c3 := blk_cell k0 3
        have d1 := blk_cell k1 1
        have d2 := blk_cell k1 2
        have d4 := blk_cell k1 4
        replace q0 := (HB.out.cell (World.block_lt_of_cell? w _ q0)).trans q0
        replace q1 := (HB.out.cell (World.block_lt_of_cell? w _ q1)).trans q1
        clear k0 k1 k2
        go_quiet (fail)
        have k0 := blk_drewN K0.out nq
        have k1 := blk_drewN K1.out nq
        have k2 := blk_drewN K2.out nq
        have HB1 := Aside0.mk (pw_below_drewN HB.out nq)
        have HR1 := Aside0.mk (Kd.C_drewN HR0.out nq)
        generalize W0.drewN nq = W1 at k0 k1 k2 HB1 HR1 ⊢
        have c3 := blk_cell k0 3
        have d1 := blk_cell k1 1
        have d2 := blk_cell k1 2
        have d4 := blk_cell k1 4
        have f0 := blk_frozen k2 0
        have f1 := blk_frozen k2 1
        have f2 := blk_frozen k2 2
        have f3 := blk_frozen k2 3
        have z0 := blk_cell k2 0
        have z1 := blk_cell k2 1
        have z2 := blk_cell k2 2
        have z3 := blk_cell k2 3
        have zl := blk_lt k2
        have K1 := Aside0.mk k1
        have K2 := Aside0.mk k2
        clear k0 k1 k2 q0 q1 HB HR HR0
        go_wp2_with fail
        have bz := blk4 K2.out (.int .u64 n1) (.int .u64 n2) (.string n4) (.slice none 0 0)
        have hBl := below4 (g := w.heap.size + 1 + 1) HB1.out (by omega) (.int .u64 n1) (.int .u64 n2) (.string n4) (.slice none 0 0)
        generalize ((((W1.setCell ⟨w.heap.size + 1 + 1, 0, none⟩ (.int .u64 n1)).setCell ⟨w.heap.size + 1 + 1, 1, none⟩ (.int .u64 n2)).setCell ⟨w.heap.size + 1 + 1, 2, none⟩ (.string n4)).setCell ⟨w.heap.size + 1 + 1, 3, none⟩ (.slice none 0 0)) = W4 at bz hBl ⊢
        have y0 := blk_cell bz 0
        have y1 := blk_cell bz 1
        have y2 := blk_cell bz 2
        have y3 := blk_cell bz 3
        refine bodyPost_ret (v := .agg #[.int .u64 n1, .int .u64 n2, .string n4, .slice none 0 0]) (by simp [results, Try.results43, go_sem, y0, y1, y2, y3]) rfl ?_
        exact ⟨_, rfl, hBl, .inr (Kd.R_nil _ _ _ _ _)⟩
    · have hkb := decide_eq_false hk
      have e2 : (if hasAt ⟨term, vote, base, bt, snap, es⟩ ⟨n0, n1, n2, n3, n4⟩ then es.drop (n1 - base).toNat else []) = [] := by
        rw [if_neg (fun h : hasAt _ _ => hk (by have := h.1; dsimp only at this; omega))]
      rw [e2]
      clear e2 hd hx hk hq1 hq2
      go_enter Try.func43, Try.ntmps43
      go_wp2_with fail
      repeat (go_quiet (fail); try go_wp2_with fail)
      refine bodyPost_ret (v := .agg #[.int .u64 n1, .int .u64 n2, .string n4, .slice none 0 0]) (by simp [results, Try.results43, go_sem]) rfl ?_
      exact ⟨_, rfl, pw_below_drewN (below_alloc (below_alloc (below_alloc (Below.refl _ _) _) _) _) _, .inr (Kd.R_nil _ _ _ _ _)⟩
end Go.Proofs.Ytfjhlcbpogihmaa.Pr
end
section
namespace Go.Proofs.Ytfjhlcbpogihmaa.Pr
open Go.RowKit Go.Proofs.YtfjhlcbpogihmaaW.PrintWords Go.Proofs.YtfjhlcbpogihmaaW.PrintLast Go.Proofs.YtfjhlcbpogihmaaW.PrintMore
attribute [local go_sem] max2_int min2_int max_two min_two max_three min_three max_four min_four
set_option linter.unusedVariables false
set_option linter.unusedSimpArgs false
/-! ### note_last: function 42 -/
def note_last.f (a0_0 : Int) (a0_1 : Int) (a0_2 : ByteArray) (l0_3 : List (S75)) : Option (Int) := some (IntKind.u64.wrap (a0_0 + (IntKind.u64.wrap ((l0_3.length : Int)))))
set_option maxHeartbeats 8000000 in
set_option maxRecDepth 100000 in
theorem note_last.calls (a0_0 : Int) (a0_1 : Int) (a0_2 : ByteArray) (A0_3 : Option Addr) (c0_3 : Nat) (l0_3 : List (S75)) (r : Int) (w : World) (hr0_3 : Kd.C k75 w A0_3 l0_3.length l0_3) (hc0_3 : l0_3.length ≤ c0_3) (h : note_last.f a0_0 a0_1 a0_2 l0_3 = some r) :
    Calls Try.prog 42 #[.agg #[.int .u64 a0_0, .int .u64 a0_1, .string a0_2, .slice A0_3 l0_3.length c0_3]] w fun e w' => e = .returned (.int .u64 r) ∧ Below w.heap.size w w' := by
  have hu28 := Try.underlying28
  have HR0_3 := Aside0.mk hr0_3
  have HC0_3 := Aside0.mk hc0_3
  clear hr0_3 hc0_3
  have HB := Aside0.mk (Below.refl w.heap.size w)
  have H : (some (IntKind.u64.wrap (a0_0 + (IntKind.u64.wrap ((l0_3.length : Int)))))) = some r := h
  clear h
  obtain rfl := Option.some.inj H
  go_enter Try.func42, Try.ntmps42
  go_wp2_with (first | ((with_reducible refine gate_dst (N := 1) rfl ?_); refine box_event ?hg (N := 1) ?hd (cs := #[.int .u64 a0_0, .int .u64 a0_1, .string a0_2, .slice A0_3 l0_3.length c0_3]) (t := 28) ?hr ?_; (case hd => rfl); (case hg => rfl); (case hr => first | (go_simp; done) | (go_simp; rfl)); intro gb101 hg w2 hbox hb; have n0_ := Aside0.mk (below_step (by repeat (first | (with_reducible first | exact HB.out | apply below_alloc | apply pw_below_drewN | apply below_drew1) | exact HB.out | exact Below.refl _ _)) hb); have n1_ := Aside0.mk (hbox); have n2_ := Aside0.mk ((by rw [hg]; exact (below_size (by repeat (first | (with_reducible first | exact HB.out | apply below_alloc | apply pw_below_drewN | apply below_drew1) | exact HB.out))) : w.heap.size ≤ gb101)); have n3_ := Aside0.mk ((by rw [hg]; exact (below_size (by repeat (first | (with_reducible first | exact HB.out | apply below_alloc | apply pw_below_drewN | apply below_drew1) | exact HB.out))) : w.heap.size ≤ gb101)); clear HB; have HB := n0_; have BK101 := n1_; have GW101 := n2_; have GE101 := n3_; clear n0_ n1_ n2_ n3_; clear hb hbox hg; have hcz3_0 : w2.cell? ⟨gb101, 0, none⟩ = some (.int .u64 a0_0) := (blk_cell BK101.out 0).trans rfl; have hcz3_1 : w2.cell? ⟨gb101, 1, none⟩ = some (.int .u64 a0_1) := (blk_cell BK101.out 1).trans rfl; have hcz3_2 : w2.cell? ⟨gb101, 2, none⟩ = some (.string a0_2) := (blk_cell BK101.out 2).trans rfl; have hcz3_3 : w2.cell? ⟨gb101, 3, none⟩ = some (.slice A0_3 l0_3.length c0_3) := (blk_cell BK101.out 3).trans rfl; have hfz3_0 := blk_frozen BK101.out 0; have hfz3_1 := blk_frozen BK101.out 1; have hfz3_2 := blk_frozen BK101.out 2; have hfz3_3 := blk_frozen BK101.out 3))
  go_ret
  exact ⟨by first | rfl | (simp [errW_none, errW_some] <;> rfl) | (simp [*, errW_none, errW_some] <;> rfl), by repeat (first | (with_reducible first | exact HB.out | apply below_alloc | apply pw_below_drewN | apply below_drew1 | refine below_set ?_ GE101.out) | exact HB.out)⟩
end Go.Proofs.Ytfjhlcbpogihmaa.Pr
end
section
namespace Go.Proofs.Ytfjhlcbpogihmaa.Pr
open Go.RowKit Go.Proofs.YtfjhlcbpogihmaaW.PrintWords Go.Proofs.YtfjhlcbpogihmaaW.PrintLast Go.Proofs.YtfjhlcbpogihmaaW.PrintMore
attribute [local go_sem] max2_int min2_int max_two min_two max_three min_three max_four min_four
set_option linter.unusedVariables false
set_option linter.unusedSimpArgs false
theorem eqA39 (d : Nat) (w : World) (x0 y0 : Int) (x1 y1 : Int) (x2 y2 : Int) (x3 y3 : Int) (x4 y4 : ByteArray) :
    (Op.equalIn (d + 2) 39 (.agg #[.int .i64 x0, .int .u64 x1, .int .u64 x2, .int .u64 x3, .string x4]) (.agg #[.int .i64 y0, .int .u64 y1, .int .u64 y2, .int .u64 y3, .string y4])).run Try.prog w = .ok (x0 == y0 && (x1 == y1 && (x2 == y2 && (x3 == y3 && (x4.toList == y4.toList))))) w := by
  refine eqA_of Try.underlying39 (by kernel_rfl) ?_
  refine eqf_cons (by rfl) (by go_simp; rfl) (by go_simp; rfl) (by go_simp) ?_
  refine eqf_cons (by rfl) (by go_simp; rfl) (by go_simp; rfl) (by go_simp) ?_
  refine eqf_cons (by rfl) (by go_simp; rfl) (by go_simp; rfl) (by go_simp) ?_
  refine eqf_cons (by rfl) (by go_simp; rfl) (by go_simp; rfl) (by go_simp) ?_
  exact eqf_last (by rfl) (by go_simp; rfl) (by go_simp; rfl) (by go_simp)
end Go.Proofs.Ytfjhlcbpogihmaa.Pr
end
section
namespace Go.Proofs.Ytfjhlcbpogihmaa.Pr
open Go.RowKit Go.Proofs.YtfjhlcbpogihmaaW.PrintWords Go.Proofs.YtfjhlcbpogihmaaW.PrintLast Go.Proofs.YtfjhlcbpogihmaaW.PrintMore
attribute [local go_sem] max2_int min2_int max_two min_two max_three min_three max_four min_four
set_option linter.unusedVariables false
set_option linter.unusedSimpArgs false
attribute [local go_sem high] eqA39
/-! ### ferruleref04_Notes: function 24 -/
def ferruleref04_Notes.l0 : Nat → List (S39) → List (S39) → Int → Option (Bool)
  | 0, _, _, _ => none
  | k + 1, x0, x1, x5 => if x5 < (x0.length : Int) then (if 0 ≤ x5 then (if x5 < (x1.length : Int) then (if (!(((rd_T39 x0 x5).f0) == ((rd_T39 x1 x5).f0)) || (!(((rd_T39 x0 x5).f1) == ((rd_T39 x1 x5).f1)) || (!(((rd_T39 x0 x5).f2) == ((rd_T39 x1 x5).f2)) || (!(((rd_T39 x0 x5).f3) == ((rd_T39 x1 x5).f3)) || (!((((rd_T39 x0 x5).f4).toList) == (((rd_T39 x1 x5).f4).toList))))))) = true then (some false) else (ferruleref04_Notes.l0 k x0 x1 (wrap64 (x5 + 1)))) else (none)) else (none)) else (some true)
def ferruleref04_Notes.f (k : Nat) (l0 : List (S39)) (l1 : List (S39)) : Option (Bool) := if (l0.length : Int) = (l1.length : Int) then (ferruleref04_Notes.l0 k l0 l1 0) else (some false)
set_option maxHeartbeats 8000000 in
set_option maxRecDepth 100000 in
theorem ferruleref04_Notes.calls (k : Nat) (A0 : Option Addr) (c0 : Nat) (l0 : List (S39)) (A1 : Option Addr) (c1 : Nat) (l1 : List (S39)) (r : Bool) (w : World) (hr0 : Kd.C k39 w A0 l0.length l0) (hc0 : l0.length ≤ c0) (hr1 : Kd.C k39 w A1 l1.length l1) (hc1 : l1.length ≤ c1) (h : ferruleref04_Notes.f k l0 l1 = some r) :
    Calls Try.prog 24 #[.slice A0 l0.length c0, .slice A1 l1.length c1] w fun e w' => e = .returned (.bool r) ∧ Drawn0 w w' := by
  have hu39 := Try.underlying39
  have HR0 := Aside0.mk hr0
  have HC0 := Aside0.mk hc0
  clear hr0 hc0
  have HR1 := Aside0.mk hr1
  have HC1 := Aside0.mk hc1
  clear hr1 hc1
  have H : (if (l0.length : Int) = (l1.length : Int) then (ferruleref04_Notes.l0 k l0 l1 0) else (some false)) = some r := h
  clear h
  by_cases c3 : (l0.length : Int) = (l1.length : Int)
  · rw [if_pos c3] at H
    have c3b0 : ((l0.length : Int) == (l1.length : Int)) = true := beq_iff_eq.mpr c3
    have c3b1 : ((l0.length : Int) != (l1.length : Int)) = false := bne_eq_false_iff_eq.mpr c3
    have c3b2 : (l0.length == l1.length) = true := by first | simpa using c3 | (simp at c3 ⊢; omega)
    clear c3
    have H' := Aside0.mk H
    clear H
    go_enter Try.func24, Try.ntmps24
    go_wp2
    repeat (go_quiet (fail); try go_wp2)
    go_loopg [5] k (fun kq v5 w' => ∃ (x5_1 : Int), v5 = .int .i64 x5_1 ∧ Aside0 (ferruleref04_Notes.l0 kq l0 l1 x5_1 = some r) ∧ Aside0 (kq ≤ k) ∧ Drawn0 w w')
    case atStart => exact ⟨(0), (by first | rfl | (simp; done) | (simp [*]; done)), H', ⟨Nat.le_refl _⟩, by repeat (first | exact Drawn0.refl _ | apply Drawn0.step)⟩
    case round =>
      clear H'
      try clear c1
      try clear c2
      try clear p2
      try clear c3
      try clear c3b0
      try clear c3b1
      try clear c3b2
      obtain ⟨x5_1, rfl, HA, HK1, ⟨m1, rfl⟩⟩ := hrel
      cases gk with
      | zero => exact absurd HA.out (by simp [ferruleref04_Notes.l0])
      | succ k1 =>
        have H := HA.out
        clear HA
        simp only [ferruleref04_Notes.l0] at H
        by_cases c4 : x5_1 < (l0.length : Int)
        · rw [if_pos c4] at H
          have c4b0 : decide (x5_1 < (l0.length : Int)) = true := decide_eq_true c4
          clear c4
          by_cases c5 : 0 ≤ x5_1
          · rw [if_pos c5] at H
            have c5b0 : decide (0 ≤ x5_1) = true := decide_eq_true c5
            clear c5
            by_cases c6 : x5_1 < (l1.length : Int)
            · rw [if_pos c6] at H
              have c6b0 : decide (x5_1 < (l1.length : Int)) = true := decide_eq_true c6
              clear c6
              by_cases c7 : (!(((rd_T39 l0 x5_1).f0) == ((rd_T39 l1 x5_1).f0)) || (!(((rd_T39 l0 x5_1).f1) == ((rd_T39 l1 x5_1).f1)) || (!(((rd_T39 l0 x5_1).f2) == ((rd_T39 l1 x5_1).f2)) || (!(((rd_T39 l0 x5_1).f3) == ((rd_T39 l1 x5_1).f3)) || (!((((rd_T39 l0 x5_1).f4).toList) == (((rd_T39 l1 x5_1).f4).toList))))))) = true
              · rw [if_pos c7] at H
                have c7b0 : (!(((rd_T39 l0 x5_1).f0) == ((rd_T39 l1 x5_1).f0)) || (!(((rd_T39 l0 x5_1).f1) == ((rd_T39 l1 x5_1).f1)) || (!(((rd_T39 l0 x5_1).f2) == ((rd_T39 l1 x5_1).f2)) || (!(((rd_T39 l0 x5_1).f3) == ((rd_T39 l1 x5_1).f3)) || (!((((rd_T39 l0 x5_1).f4).toList) == (((rd_T39 l1 x5_1).f4).toList))))))) = true := c7
                clear c7
                obtain rfl := Option.some.inj H
                have p241 : 0 ≤ (x5_1 : Int) := of_decide_eq_true (by first | (with_reducible assumption) | assumption)
                have q241 : x5_1 < (l0.length : Int) := of_decide_eq_true (by first | (with_reducible assumption) | assumption)
                obtain ⟨ad241, e241, hx241_0, hx241_1, hx241_2, hx241_3, hx241_4⟩ := at_T39 HR0.out x5_1 p241 q241
                cases e241
                replace p241 := eq_true p241
                replace q241 := eq_true q241
                have p242 : 0 ≤ (x5_1 : Int) := of_decide_eq_true (by first | (with_reducible assumption) | assumption)
                have q242 : x5_1 < (l1.length : Int) := of_decide_eq_true (by first | (with_reducible assumption) | assumption)
                obtain ⟨ad242, e242, hx242_0, hx242_1, hx242_2, hx242_3, hx242_4⟩ := at_T39 HR1.out x5_1 p242 q242
                cases e242
                replace p242 := eq_true p242
                replace q242 := eq_true q242
                go_wp2
                repeat (go_quiet (fail); try go_wp2)
                go_ret
                exact ⟨by first | rfl | (simp; done) | (simp [*]; done), by repeat (first | exact Drawn0.refl _ | apply Drawn0.step)⟩
              · rw [if_neg c7] at H
                have c7b0 : (!(((rd_T39 l0 x5_1).f0) == ((rd_T39 l1 x5_1).f0)) || (!(((rd_T39 l0 x5_1).f1) == ((rd_T39 l1 x5_1).f1)) || (!(((rd_T39 l0 x5_1).f2) == ((rd_T39 l1 x5_1).f2)) || (!(((rd_T39 l0 x5_1).f3) == ((rd_T39 l1 x5_1).f3)) || (!((((rd_T39 l0 x5_1).f4).toList) == (((rd_T39 l1 x5_1).f4).toList))))))) = false := by simpa using c7
                clear c7
                have H' := Aside0.mk H
                clear H
                have p241 : 0 ≤ (x5_1 : Int) := of_decide_eq_true (by first | (with_reducible assumption) | assumption)
                have q241 : x5_1 < (l0.length : Int) := of_decide_eq_true (by first | (with_reducible assumption) | assumption)
                obtain ⟨ad241, e241, hx241_0, hx241_1, hx241_2, hx241_3, hx241_4⟩ := at_T39 HR0.out x5_1 p241 q241
                cases e241
                replace p241 := eq_true p241
                replace q241 := eq_true q241
                have p242 : 0 ≤ (x5_1 : Int) := of_decide_eq_true (by first | (with_reducible assumption) | assumption)
                have q242 : x5_1 < (l1.length : Int) := of_decide_eq_true (by first | (with_reducible assumption) | assumption)
                obtain ⟨ad242, e242, hx242_0, hx242_1, hx242_2, hx242_3, hx242_4⟩ := at_T39 HR1.out x5_1 p242 q242
                cases e242
                replace p242 := eq_true p242
                replace q242 := eq_true q242
                go_wp2
                repeat (go_quiet (fail); try go_wp2)
                go_roundg k1
                case measure => have := HK1.out; omega
                case rel => exact ⟨(wrap64 (x5_1 + 1)), (by first | rfl | (simp; done) | (simp [*]; done)), H', ⟨by have := HK1.out; omega⟩, by repeat (first | exact Drawn0.refl _ | apply Drawn0.step)⟩
            · rw [if_neg c6] at H
              exact absurd H (by simp)
          · rw [if_neg c5] at H
            exact absurd H (by simp)
        · rw [if_neg c4] at H
          have c4b0 : decide (x5_1 < (l0.length : Int)) = false := decide_eq_false c4
          clear c4
          obtain rfl := Option.some.inj H
          go_wp2
          repeat (go_quiet (fail); try go_wp2)
          go_ret
          exact ⟨by first | rfl | (simp; done) | (simp [*]; done), by repeat (first | exact Drawn0.refl _ | apply Drawn0.step)⟩
  · rw [if_neg c3] at H
    have c3b0 : ((l0.length : Int) == (l1.length : Int)) = false := beq_eq_false_iff_ne.mpr c3
    have c3b1 : ((l0.length : Int) != (l1.length : Int)) = true := bne_iff_ne.mpr c3
    have c3b2 : (l0.length == l1.length) = false := by first | simpa using c3 | (simp at c3 ⊢; omega)
    obtain rfl := Option.some.inj H
    go_enter Try.func24, Try.ntmps24
    go_wp2
    repeat (go_quiet (fail); try go_wp2)
    go_ret
    exact ⟨by first | rfl | (simp; done) | (simp [*]; done), by repeat (first | exact Drawn0.refl _ | apply Drawn0.step)⟩
end Go.Proofs.Ytfjhlcbpogihmaa.Pr
end
section
namespace Go.Proofs.Ytfjhlcbpogihmaa.Pr
open Go.RowKit Go.Proofs.YtfjhlcbpogihmaaW.PrintWords Go.Proofs.YtfjhlcbpogihmaaW.PrintLast Go.Proofs.YtfjhlcbpogihmaaW.PrintMore
attribute [local go_sem] max2_int min2_int max_two min_two max_three min_three max_four min_four
set_option linter.unusedVariables false
set_option linter.unusedSimpArgs false
/-! ### ferruleref01_Size: function 87 -/
def ferruleref01_Size.f (a0 : Int) : Option (Int) := if a0 < 64 then (some 1) else (if a0 < 16384 then (some 2) else (if a0 < 1073741824 then (some 4) else (if a0 < 4611686018427387904 then (some 8) else (some 0))))
set_option maxHeartbeats 8000000 in
set_option maxRecDepth 100000 in
theorem ferruleref01_Size.calls (a0 : Int) (r : Int) (w : World) (h : ferruleref01_Size.f a0 = some r) :
    Calls Try.prog 87 #[.int .u64 a0] w fun e w' => e = .returned (.int .i64 r) ∧ Drawn0 w w' := by
  have H : (if a0 < 64 then (some 1) else (if a0 < 16384 then (some 2) else (if a0 < 1073741824 then (some 4) else (if a0 < 4611686018427387904 then (some 8) else (some 0))))) = some r := h
  clear h
  by_cases c2 : a0 < 64
  · rw [if_pos c2] at H
    have c2b0 : decide (a0 < 64) = true := decide_eq_true c2
    clear c2
    obtain rfl := Option.some.inj H
    go_enter Try.func87, Try.ntmps87
    go_wp2
    go_ret
    exact ⟨by first | rfl | (simp; done) | (simp [*]; done), by repeat (first | exact Drawn0.refl _ | apply Drawn0.step)⟩
  · rw [if_neg c2] at H
    have c2b0 : decide (a0 < 64) = false := decide_eq_false c2
    clear c2
    by_cases c3 : a0 < 16384
    · rw [if_pos c3] at H
      have c3b0 : decide (a0 < 16384) = true := decide_eq_true c3
      clear c3
      obtain rfl := Option.some.inj H
      go_enter Try.func87, Try.ntmps87
      go_wp2
      go_ret
      exact ⟨by first | rfl | (simp; done) | (simp [*]; done), by repeat (first | exact Drawn0.refl _ | apply Drawn0.step)⟩
    · rw [if_neg c3] at H
      have c3b0 : decide (a0 < 16384) = false := decide_eq_false c3
      clear c3
      by_cases c4 : a0 < 1073741824
      · rw [if_pos c4] at H
        have c4b0 : decide (a0 < 1073741824) = true := decide_eq_true c4
        clear c4
        obtain rfl := Option.some.inj H
        go_enter Try.func87, Try.ntmps87
        go_wp2
        go_ret
        exact ⟨by first | rfl | (simp; done) | (simp [*]; done), by repeat (first | exact Drawn0.refl _ | apply Drawn0.step)⟩
      · rw [if_neg c4] at H
        have c4b0 : decide (a0 < 1073741824) = false := decide_eq_false c4
        clear c4
        by_cases c5 : a0 < 4611686018427387904
        · rw [if_pos c5] at H
          have c5b0 : decide (a0 < 4611686018427387904) = true := decide_eq_true c5
          clear c5
          obtain rfl := Option.some.inj H
          go_enter Try.func87, Try.ntmps87
          go_wp2
          go_ret
          exact ⟨by first | rfl | (simp; done) | (simp [*]; done), by repeat (first | exact Drawn0.refl _ | apply Drawn0.step)⟩
        · rw [if_neg c5] at H
          have c5b0 : decide (a0 < 4611686018427387904) = false := decide_eq_false c5
          clear c5
          obtain rfl := Option.some.inj H
          go_enter Try.func87, Try.ntmps87
          go_wp2
          go_ret
          exact ⟨by first | rfl | (simp; done) | (simp [*]; done), by repeat (first | exact Drawn0.refl _ | apply Drawn0.step)⟩
end Go.Proofs.Ytfjhlcbpogihmaa.Pr
end
section
namespace Go.Proofs.Ytfjhlcbpogihmaa.Pr
open Go.RowKit Go.Proofs.YtfjhlcbpogihmaaW.PrintWords Go.Proofs.YtfjhlcbpogihmaaW.PrintLast Go.Proofs.YtfjhlcbpogihmaaW.PrintMore
attribute [local go_sem] max2_int min2_int max_two min_two max_three min_three max_four min_four
set_option linter.unusedVariables false
set_option linter.unusedSimpArgs false
/-! ### ferruleref01_Num: function 61 -/
mutual
def ferruleref01_Num.j0 : Nat → Int → Int → Int → Option (ByteArray × Int)
  | 0, _, _, _ => none
  | k + 1, x0, x4, x5 => if x4 = 4 then (ferruleref01_Num.j1 k x0 x4 2147483648) else (ferruleref01_Num.j1 k x0 x4 x5)
def ferruleref01_Num.j1 : Nat → Int → Int → Int → Option (ByteArray × Int)
  | 0, _, _, _ => none
  | k + 1, x0, x4, x5 => if x4 = 8 then (ferruleref01_Num.j2 k x0 x4 13835058055282163712) else (ferruleref01_Num.j2 k x0 x4 x5)
def ferruleref01_Num.j2 : Nat → Int → Int → Int → Option (ByteArray × Int)
  | 0, _, _, _ => none
  | k + 1, x0, x4, x5 => ferruleref01_Num.l0 k (IntKind.u64.wrap (x0 + x5)) x4 (⟨#[]⟩ : ByteArray) 0
def ferruleref01_Num.l0 : Nat → Int → Int → ByteArray → Int → Option (ByteArray × Int)
  | 0, _, _, _, _ => none
  | k + 1, x0, x4, x6, x7 => if x7 < x4 then ((some (([(Int.tmod x0 256) % 256] : List Int) : List Int)).bind fun y402 => (if (strOfNums y402).size + x6.size ≤ 9223372036854775807 then (ferruleref01_Num.l0 k (IntKind.u64.wrap (Int.tdiv x0 256)) x4 ((strOfNums y402) ++ x6) (wrap64 (x7 + 1))) else (none))) else (some (x6, 0))
end
def ferruleref01_Num.f (k : Nat) (a0 : Int) : Option (ByteArray × Int) := (ferruleref01_Size.f a0).bind fun t401 => (if t401 = 0 then (some ((⟨#[]⟩ : ByteArray), 4)) else (if t401 = 2 then (ferruleref01_Num.j0 k a0 t401 16384) else (ferruleref01_Num.j0 k a0 t401 0)))
end Go.Proofs.Ytfjhlcbpogihmaa.Pr
end
section
namespace Go.Proofs.Ytfjhlcbpogihmaa.Pr
open Go.RowKit Go.Proofs.YtfjhlcbpogihmaaW.PrintWords Go.Proofs.YtfjhlcbpogihmaaW.PrintLast Go.Proofs.YtfjhlcbpogihmaaW.PrintMore
attribute [local go_sem] max2_int min2_int max_two min_two max_three min_three max_four min_four
set_option linter.unusedVariables false
set_option linter.unusedSimpArgs false
/-! ### ferruleref01_Text: function 62 -/
def ferruleref01_Text.f (k : Nat) (a0 : ByteArray) : Option (ByteArray × Int) := if (a0.size : Int) > 4096 then (some ((⟨#[]⟩ : ByteArray), 4)) else ((ferruleref01_Num.f k (a0.size : Int)).bind fun bt405 => (if bt405.1.size + a0.size ≤ 9223372036854775807 then (some (bt405.1 ++ a0, 0)) else (none)))
/-! ### ferruleref02_four: function 88 -/
def ferruleref02_four.f (a0 : Int) : Option (ByteArray) := some (strOfNums (([((Int.tdiv a0 16777216) % 4294967296) % 256, ((Int.tdiv a0 65536) % 4294967296) % 256, ((Int.tdiv a0 256) % 4294967296) % 256, (Int.tmod a0 256) % 256] : List Int)))
set_option maxHeartbeats 8000000 in
set_option maxRecDepth 100000 in
theorem ferruleref02_four.calls (a0 : Int) (r : ByteArray) (w : World) (h : ferruleref02_four.f a0 = some r) :
    Calls Try.prog 88 #[.int .u32 a0] w fun e w' => e = .returned (.string r) ∧ Below w.heap.size w w' := by
  have HB := Aside0.mk (Below.refl w.heap.size w)
  have H : (some (strOfNums (([((Int.tdiv a0 16777216) % 4294967296) % 256, ((Int.tdiv a0 65536) % 4294967296) % 256, ((Int.tdiv a0 256) % 4294967296) % 256, (Int.tmod a0 256) % 256] : List Int)))) = some r := h
  clear h
  obtain ⟨y407, hy407⟩ : ∃ y_ : List Int, y_ = (([((Int.tdiv a0 16777216) % 4294967296) % 256, ((Int.tdiv a0 65536) % 4294967296) % 256, ((Int.tdiv a0 256) % 4294967296) % 256, (Int.tmod a0 256) % 256] : List Int)) := ⟨_, rfl⟩
  replace H : (some (strOfNums y407)) = some r := by first | (rw [hy407]; with_reducible exact H) | (have H2_ := (Option.bind_some _ _).symm.trans H; rw [hy407]; with_reducible exact H2_) | (have H2_ := (Option.bind_some _ _).symm.trans H; with_reducible exact H2_) | with_reducible exact H | (rw [hy407]; exact H) | exact H
  have Ny407 := Aside0.mk hy407
  clear hy407
  obtain rfl := Option.some.inj H
  go_enter Try.func88, Try.ntmps88
  go_wp2_with (first | ((with_reducible refine gate_dst (N := 17) rfl ?_); refine Kd.R_lit (Kd.int .u8) _ 5 ?hg (N := 17) ?hd (xs := ([((Int.tdiv a0 16777216) % 4294967296) % 256, ((Int.tdiv a0 65536) % 4294967296) % 256, ((Int.tdiv a0 256) % 4294967296) % 256, (Int.tmod a0 256) % 256] : List Int)) (inner := [.int .u8 (((Int.tdiv a0 16777216) % 4294967296) % 256), .int .u8 (((Int.tdiv a0 65536) % 4294967296) % 256), .int .u8 (((Int.tdiv a0 256) % 4294967296) % 256), .int .u8 ((Int.tmod a0 256) % 256)]) (ok := fun _ => True) (okp := fun _ => True) ?hr ?hp (fun _ hk => hk) trivial (Below.refl _ _) (Nat.le_refl _) (by simp) ?_; (case hd => rfl); (case hg => rfl); (case hr => first | (go_simp; done) | (go_simp; rfl)); (case hp => exact (Reps.one (show Kd.M (Kd.int .u8) _ _ _ (((Int.tdiv a0 16777216) % 4294967296) % 256) [.int .u8 (((Int.tdiv a0 16777216) % 4294967296) % 256)] from rfl) (Reps.one (show Kd.M (Kd.int .u8) _ _ _ (((Int.tdiv a0 65536) % 4294967296) % 256) [.int .u8 (((Int.tdiv a0 65536) % 4294967296) % 256)] from rfl) (Reps.one (show Kd.M (Kd.int .u8) _ _ _ (((Int.tdiv a0 256) % 4294967296) % 256) [.int .u8 (((Int.tdiv a0 256) % 4294967296) % 256)] from rfl) (Reps.one (show Kd.M (Kd.int .u8) _ _ _ ((Int.tmod a0 256) % 256) [.int .u8 ((Int.tmod a0 256) % 256)] from rfl) (Reps.none _ _)))))); intro v408 w2 ho3 hb hg_ hnew_; clear hg_ hnew_; (first | rw [← Ny407.out] at ho3 | (simp only [Int.reduceToNat] at ho3; rw [← Ny407.out] at ho3)); have n0_ := Aside0.mk (Kd.R_lower ho3 (below_size (by repeat (first | (with_reducible first | exact HB.out | apply below_alloc | apply pw_below_drewN | apply below_drew1) | exact HB.out)))); have n1_ := Aside0.mk (below_step (by repeat (first | (with_reducible first | exact HB.out | apply below_alloc | apply pw_below_drewN | apply below_drew1) | exact HB.out | exact Below.refl _ _)) hb); clear HB; have HO409 := n0_; have HB := n1_; clear n0_ n1_; clear hb ho3; have hcv4 := own_string (P := Try.prog) Try.underlying81 Try.underlying5 Try.underlying9 (Kd.own_of_R HO409.out)))
  go_ret
  exact ⟨by first | rfl | (simp [errW_none, errW_some] <;> rfl) | (simp [*, errW_none, errW_some] <;> rfl), by repeat (first | (with_reducible first | exact HB.out | apply below_alloc | apply pw_below_drewN | apply below_drew1) | exact HB.out)⟩
end Go.Proofs.Ytfjhlcbpogihmaa.Pr
end
section
namespace Go.Proofs.Ytfjhlcbpogihmaa.Pr
open Go.RowKit Go.Proofs.YtfjhlcbpogihmaaW.PrintWords Go.Proofs.YtfjhlcbpogihmaaW.PrintLast Go.Proofs.YtfjhlcbpogihmaaW.PrintMore
attribute [local go_sem] max2_int min2_int max_two min_two max_three min_three max_four min_four
set_option linter.unusedVariables false
set_option linter.unusedSimpArgs false
/-! ### ferruleref02_Sum: function 89 -/
def ferruleref02_Sum.l0 : Nat → ByteArray → Int → Int → Int → Option (Int)
  | 0, _, _, _, _ => none
  | k + 1, x0, x3, x4, x5 => if x5 < (x0.size : Int) then (if 0 ≤ x5 then (ferruleref02_Sum.l0 k x0 (((x3 + ((bt x0 x5) % 4294967296)) % 4294967296) % 65521) (((x4 + (((x3 + ((bt x0 x5) % 4294967296)) % 4294967296) % 65521)) % 4294967296) % 65521) (wrap64 (x5 + 1))) else (none)) else (some ((((x4 * 65536) % 4294967296) + x3) % 4294967296))
def ferruleref02_Sum.f (k : Nat) (a0 : ByteArray) : Option (Int) := ferruleref02_Sum.l0 k a0 1 0 0
theorem ferruleref02_Sum.mono_l : ∀ k, (∀ y0 y1 y2 y3, LeO (ferruleref02_Sum.l0 k y0 y1 y2 y3) (ferruleref02_Sum.l0 (k + 1) y0 y1 y2 y3))
  | 0 => fun _ _ _ _ r h => by simp [ferruleref02_Sum.l0] at h
  | k + 1 => by
    have ih0 := ferruleref02_Sum.mono_l k
    · intro y0 y1 y2 y3
      unfold ferruleref02_Sum.l0
      repeat' first
      | (with_reducible exact ih0 _ _ _ _)
      | (with_reducible exact LeO.refl _)
      | (with_reducible exact LeO.none _)
      | (with_reducible refine LeO.ite ?_ ?_)
      | (with_reducible refine LeO.bind ?_ (fun _ => ?_))
      | exact ih0 _ _ _ _
      | exact LeO.none _
      | refine LeO.ite ?_ ?_
      | refine LeO.bind ?_ (fun _ => ?_)
theorem ferruleref02_Sum.mono : ∀ a0 k, LeO (ferruleref02_Sum.f k a0) (ferruleref02_Sum.f (k + 1) a0) := by
  intro a0 k
  have ih0 := ferruleref02_Sum.mono_l k
  unfold ferruleref02_Sum.f
  repeat' first
      | (with_reducible exact ih0 _ _ _ _)
      | (with_reducible exact LeO.refl _)
      | (with_reducible exact LeO.none _)
      | (with_reducible refine LeO.ite ?_ ?_)
      | (with_reducible refine LeO.bind ?_ (fun _ => ?_))
      | exact ih0 _ _ _ _
      | exact LeO.none _
      | refine LeO.ite ?_ ?_
      | refine LeO.bind ?_ (fun _ => ?_)
set_option maxHeartbeats 8000000 in
set_option maxRecDepth 100000 in
theorem ferruleref02_Sum.calls (k : Nat) (a0 : ByteArray) (r : Int) (w : World) (h : ferruleref02_Sum.f k a0 = some r) :
    Calls Try.prog 89 #[.string a0] w fun e w' => e = .returned (.int .u32 r) ∧ Drawn0 w w' := by
  have H : (ferruleref02_Sum.l0 k a0 1 0 0) = some r := h
  clear h
  have H' := Aside0.mk H
  clear H
  go_enter Try.func89, Try.ntmps89
  go_wp2
  go_loopg [3, 4, 5] k (fun kq v3 v4 v5 w' => ∃ (x3_1 : Int) (x4_1 : Int) (x5_1 : Int), v3 = .int .u32 x3_1 ∧ v4 = .int .u32 x4_1 ∧ v5 = .int .i64 x5_1 ∧ Aside0 (ferruleref02_Sum.l0 kq a0 x3_1 x4_1 x5_1 = some r) ∧ Aside0 (kq ≤ k) ∧ Drawn0 w w')
  case atStart => exact ⟨(1), (0), (0), (by first | rfl | (simp; done) | (simp [*]; done)), (by first | rfl | (simp; done) | (simp [*]; done)), (by first | rfl | (simp; done) | (simp [*]; done)), H', ⟨Nat.le_refl _⟩, by repeat (first | exact Drawn0.refl _ | apply Drawn0.step)⟩
  case round =>
    clear H'
    obtain ⟨x3_1, x4_1, x5_1, rfl, rfl, rfl, HA, HK1, ⟨m1, rfl⟩⟩ := hrel
    cases gk with
    | zero => exact absurd HA.out (by simp [ferruleref02_Sum.l0])
    | succ k1 =>
      have H := HA.out
      clear HA
      simp only [ferruleref02_Sum.l0] at H
      by_cases c2 : x5_1 < (a0.size : Int)
      · rw [if_pos c2] at H
        have c2b0 : decide (x5_1 < (a0.size : Int)) = true := decide_eq_true c2
        clear c2
        by_cases c3 : 0 ≤ x5_1
        · rw [if_pos c3] at H
          have c3b0 : decide (0 ≤ x5_1) = true := decide_eq_true c3
          clear c3
          have H' := Aside0.mk H
          clear H
          have p4 : 0 ≤ (x5_1 : Int) := of_decide_eq_true (by first | (with_reducible assumption) | assumption)
          have q4 : x5_1 < (a0.size : Int) := of_decide_eq_true (by first | (with_reducible assumption) | assumption)
          have hx4 := bt_at a0 x5_1
          replace p4 := eq_true p4
          replace q4 := eq_true q4
          go_wp2
          go_roundg k1
          case measure => have := HK1.out; omega
          case rel => exact ⟨(((x3_1 + ((bt a0 x5_1) % 4294967296)) % 4294967296) % 65521), (((x4_1 + (((x3_1 + ((bt a0 x5_1) % 4294967296)) % 4294967296) % 65521)) % 4294967296) % 65521), (wrap64 (x5_1 + 1)), (by first | rfl | (simp; done) | (simp [*]; done)), (by first | rfl | (simp; done) | (simp [*]; done)), (by first | rfl | (simp; done) | (simp [*]; done)), H', ⟨by have := HK1.out; omega⟩, by repeat (first | exact Drawn0.refl _ | apply Drawn0.step)⟩
        · rw [if_neg c3] at H
          exact absurd H (by simp)
      · rw [if_neg c2] at H
        have c2b0 : decide (x5_1 < (a0.size : Int)) = false := decide_eq_false c2
        clear c2
        obtain rfl := Option.some.inj H
        go_wp2
        go_ret
        exact ⟨by first | rfl | (simp; done) | (simp [*]; done), by repeat (first | exact Drawn0.refl _ | apply Drawn0.step)⟩
end Go.Proofs.Ytfjhlcbpogihmaa.Pr
end
section
namespace Go.Proofs.Ytfjhlcbpogihmaa.Pr
open Go.RowKit Go.Proofs.YtfjhlcbpogihmaaW.PrintWords Go.Proofs.YtfjhlcbpogihmaaW.PrintLast Go.Proofs.YtfjhlcbpogihmaaW.PrintMore
attribute [local go_sem] max2_int min2_int max_two min_two max_three min_three max_four min_four
set_option linter.unusedVariables false
set_option linter.unusedSimpArgs false
/-! ### ferruleref01_TakeNum: function 75 -/
mutual
def ferruleref01_TakeNum.l0 : Nat → ByteArray → Int → Int → Option (Int × ByteArray × Int)
  | 0, _, _, _ => none
  | k + 1, x0, x5, x6 => if 0 < (x0.size : Int) then (if x6 < ((Int.tdiv (bt x0 0) 64) % 256) then (ferruleref01_TakeNum.l0 k x0 (wrap64 (x5 * 2)) ((x6 + 1) % 256)) else (if (x0.size : Int) < x5 then (some (0, (⟨#[]⟩ : ByteArray), 2)) else (ferruleref01_TakeNum.l1 k x0 x5 (IntKind.u64.wrap (Int.tmod (bt x0 0) 64)) 1))) else (none)
def ferruleref01_TakeNum.l1 : Nat → ByteArray → Int → Int → Int → Option (Int × ByteArray × Int)
  | 0, _, _, _, _ => none
  | k + 1, x0, x5, x7, x8 => if x8 < x5 then (if 0 ≤ x8 then (if x8 < (x0.size : Int) then (ferruleref01_TakeNum.l1 k x0 x5 (IntKind.u64.wrap ((IntKind.u64.wrap (x7 * 256)) + (IntKind.u64.wrap (bt x0 x8)))) (wrap64 (x8 + 1))) else (none)) else (none)) else ((ferruleref01_Size.f x7).bind fun t486 => (if t486 = x5 then (if 0 ≤ x5 then (if x5 ≤ (x0.size : Int) then (some (x7, x0.extract (x5 : Int).toNat x0.size, 0)) else (none)) else (none)) else (some (0, (⟨#[]⟩ : ByteArray), 3))))
end
def ferruleref01_TakeNum.f (k : Nat) (a0 : ByteArray) : Option (Int × ByteArray × Int) := if (a0.size : Int) = 0 then (some (0, (⟨#[]⟩ : ByteArray), 2)) else (ferruleref01_TakeNum.l0 k a0 1 0)
theorem ferruleref01_TakeNum.mono_l : ∀ k, (∀ y0 y1 y2, LeO (ferruleref01_TakeNum.l0 k y0 y1 y2) (ferruleref01_TakeNum.l0 (k + 1) y0 y1 y2)) ∧ (∀ y0 y1 y2 y3, LeO (ferruleref01_TakeNum.l1 k y0 y1 y2 y3) (ferruleref01_TakeNum.l1 (k + 1) y0 y1 y2 y3))
  | 0 => ⟨fun _ _ _ r h => by simp [ferruleref01_TakeNum.l0] at h, fun _ _ _ _ r h => by simp [ferruleref01_TakeNum.l1] at h⟩
  | k + 1 => by
    obtain ⟨ih0, ih1⟩ := ferruleref01_TakeNum.mono_l k
    refine ⟨?_, ?_⟩
    · intro y0 y1 y2
      unfold ferruleref01_TakeNum.l0
      repeat' first
      | (with_reducible exact ih0 _ _ _)
      | (with_reducible exact ih1 _ _ _ _)
      | (with_reducible exact LeO.refl _)
      | (with_reducible exact LeO.none _)
      | (with_reducible refine LeO.ite ?_ ?_)
      | (with_reducible refine LeO.bind ?_ (fun _ => ?_))
      | exact ih0 _ _ _
      | exact ih1 _ _ _ _
      | exact LeO.none _
      | refine LeO.ite ?_ ?_
      | refine LeO.bind ?_ (fun _ => ?_)
    · intro y0 y1 y2 y3
      unfold ferruleref01_TakeNum.l1
      repeat' first
      | (with_reducible exact ih0 _ _ _)
      | (with_reducible exact ih1 _ _ _ _)
      | (with_reducible exact LeO.refl _)
      | (with_reducible exact LeO.none _)
      | (with_reducible refine LeO.ite ?_ ?_)
      | (with_reducible refine LeO.bind ?_ (fun _ => ?_))
      | exact ih0 _ _ _
      | exact ih1 _ _ _ _
      | exact LeO.none _
      | refine LeO.ite ?_ ?_
      | refine LeO.bind ?_ (fun _ => ?_)
theorem ferruleref01_TakeNum.mono : ∀ a0 k, LeO (ferruleref01_TakeNum.f k a0) (ferruleref01_TakeNum.f (k + 1) a0) := by
  intro a0 k
  obtain ⟨ih0, ih1⟩ := ferruleref01_TakeNum.mono_l k
  unfold ferruleref01_TakeNum.f
  repeat' first
      | (with_reducible exact ih0 _ _ _)
      | (with_reducible exact ih1 _ _ _ _)
      | (with_reducible exact LeO.refl _)
      | (with_reducible exact LeO.none _)
      | (with_reducible refine LeO.ite ?_ ?_)
      | (with_reducible refine LeO.bind ?_ (fun _ => ?_))
      | exact ih0 _ _ _
      | exact ih1 _ _ _ _
      | exact LeO.none _
      | refine LeO.ite ?_ ?_
      | refine LeO.bind ?_ (fun _ => ?_)
set_option maxHeartbeats 8000000 in
set_option maxRecDepth 100000 in
theorem ferruleref01_TakeNum.calls (k : Nat) (a0 : ByteArray) (r1 : Int) (r2 : ByteArray) (r3 : Int) (w : World) (h : ferruleref01_TakeNum.f k a0 = some (r1, r2, r3)) :
    Calls Try.prog 75 #[.string a0] w fun e w' => e = .returned (.tuple #[.int .u64 r1, .string r2, .int .i64 r3]) ∧ Drawn0 w w' := by
  have H : (if (a0.size : Int) = 0 then (some (0, (⟨#[]⟩ : ByteArray), 2)) else (ferruleref01_TakeNum.l0 k a0 1 0)) = some (r1, r2, r3) := h
  clear h
  by_cases c2 : (a0.size : Int) = 0
  · rw [if_pos c2] at H
    have c2b0 : ((a0.size : Int) == 0) = true := beq_iff_eq.mpr c2
    have c2b1 : ((a0.size : Int) != 0) = false := bne_eq_false_iff_eq.mpr c2
    clear c2
    simp only [Option.some.injEq, Prod.mk.injEq] at H
    obtain ⟨rfl, rfl, rfl⟩ := H
    go_enter Try.func75, Try.ntmps75
    go_wp2
    repeat (go_quiet (fail); try go_wp2)
    go_ret3
    exact ⟨by first | rfl | (simp; done) | (simp [*]; done), by repeat (first | exact Drawn0.refl _ | apply Drawn0.step)⟩
  · rw [if_neg c2] at H
    have c2b0 : ((a0.size : Int) == 0) = false := beq_eq_false_iff_ne.mpr c2
    have c2b1 : ((a0.size : Int) != 0) = true := bne_iff_ne.mpr c2
    have H' := Aside0.mk H
    clear H
    go_enter Try.func75, Try.ntmps75
    go_wp2
    repeat (go_quiet (fail); try go_wp2)
    go_loopg [5, 6] k (fun kq v5 v6 w' => ∃ (x5_1 : Int) (x6_1 : Int), v5 = .int .i64 x5_1 ∧ v6 = .int .u8 x6_1 ∧ Aside0 (ferruleref01_TakeNum.l0 kq a0 x5_1 x6_1 = some (r1, r2, r3)) ∧ Aside0 (kq ≤ k) ∧ Drawn0 w w')
    case atStart => exact ⟨(1), (0), (by first | rfl | (simp; done) | (simp [*]; done)), (by first | rfl | (simp; done) | (simp [*]; done)), H', ⟨Nat.le_refl _⟩, by repeat (first | exact Drawn0.refl _ | apply Drawn0.step)⟩
    case round =>
      clear H'
      try clear c2
      try clear c2b0
      try clear c2b1
      try clear p2
      obtain ⟨x5_1, x6_1, rfl, rfl, HA, HK1, ⟨m1, rfl⟩⟩ := hrel
      cases gk with
      | zero => exact absurd HA.out (by simp [ferruleref01_TakeNum.l0])
      | succ k1 =>
        have H := HA.out
        clear HA
        simp only [ferruleref01_TakeNum.l0] at H
        by_cases c3 : 0 < (a0.size : Int)
        · rw [if_pos c3] at H
          have c3b0 : decide (0 < (a0.size : Int)) = true := decide_eq_true c3
          have c3b1 : decide (0 < a0.size) = true := decide_eq_true (by omega)
          clear c3
          by_cases c5 : x6_1 < ((Int.tdiv (bt a0 0) 64) % 256)
          · rw [if_pos c5] at H
            have c5b0 : decide (x6_1 < ((Int.tdiv (bt a0 0) 64) % 256)) = true := decide_eq_true c5
            clear c5
            have H' := Aside0.mk H
            clear H
            have p4 : 0 ≤ (0 : Int) := (by omega)
            have q4 : 0 < a0.size := (by have : (0 : Int) < (a0.size : Int) := of_decide_eq_true (by first | (with_reducible assumption) | assumption); omega)
            have hx4 : ∀ h : 0 < a0.size, ((a0[0]'h).toNat : Int) = bt a0 0 := bt_at a0 0
            clear p4
            have qi4 : (0 < (a0.size : Int)) = True := eq_true (of_decide_eq_true (by first | (with_reducible assumption) | assumption))
            replace q4 := eq_true q4
            go_wp2
            repeat (go_quiet (fail); try go_wp2)
            go_roundg k1
            case measure => have := HK1.out; omega
            case rel => exact ⟨(wrap64 (x5_1 * 2)), ((x6_1 + 1) % 256), (by first | rfl | (simp; done) | (simp [*]; done)), (by first | rfl | (simp; done) | (simp [*]; done)), H', ⟨by have := HK1.out; omega⟩, by repeat (first | exact Drawn0.refl _ | apply Drawn0.step)⟩
          · rw [if_neg c5] at H
            have c5b0 : decide (x6_1 < ((Int.tdiv (bt a0 0) 64) % 256)) = false := decide_eq_false c5
            clear c5
            by_cases c6 : (a0.size : Int) < x5_1
            · rw [if_pos c6] at H
              have c6b0 : decide ((a0.size : Int) < x5_1) = true := decide_eq_true c6
              clear c6
              simp only [Option.some.injEq, Prod.mk.injEq] at H
              obtain ⟨rfl, rfl, rfl⟩ := H
              have p4 : 0 ≤ (0 : Int) := (by omega)
              have q4 : 0 < a0.size := (by have : (0 : Int) < (a0.size : Int) := of_decide_eq_true (by first | (with_reducible assumption) | assumption); omega)
              have hx4 : ∀ h : 0 < a0.size, ((a0[0]'h).toNat : Int) = bt a0 0 := bt_at a0 0
              clear p4
              have qi4 : (0 < (a0.size : Int)) = True := eq_true (of_decide_eq_true (by first | (with_reducible assumption) | assumption))
              replace q4 := eq_true q4
              go_wp2
              repeat (go_quiet (fail); try go_wp2)
              go_ret3
              exact ⟨by first | rfl | (simp; done) | (simp [*]; done), by repeat (first | exact Drawn0.refl _ | apply Drawn0.step)⟩
            · rw [if_neg c6] at H
              have c6b0 : decide ((a0.size : Int) < x5_1) = false := decide_eq_false c6
              clear c6
              have H' := Aside0.mk H
              clear H
              have p4 : 0 ≤ (0 : Int) := (by omega)
              have q4 : 0 < a0.size := (by have : (0 : Int) < (a0.size : Int) := of_decide_eq_true (by first | (with_reducible assumption) | assumption); omega)
              have hx4 : ∀ h : 0 < a0.size, ((a0[0]'h).toNat : Int) = bt a0 0 := bt_at a0 0
              clear p4
              have qi4 : (0 < (a0.size : Int)) = True := eq_true (of_decide_eq_true (by first | (with_reducible assumption) | assumption))
              replace q4 := eq_true q4
              have p7 : 0 ≤ (0 : Int) := (by omega)
              have q7 : 0 < a0.size := (by have : (0 : Int) < (a0.size : Int) := of_decide_eq_true (by first | (with_reducible assumption) | assumption); omega)
              have hx7 : ∀ h : 0 < a0.size, ((a0[0]'h).toNat : Int) = bt a0 0 := bt_at a0 0
              clear p7
              have qi7 : (0 < (a0.size : Int)) = True := eq_true (of_decide_eq_true (by first | (with_reducible assumption) | assumption))
              replace q7 := eq_true q7
              go_wp2
              repeat (go_quiet (fail); try go_wp2)
              go_loopg [7, 8] k1 (fun kq v7 v8 w' => ∃ (x7_2 : Int) (x8_2 : Int), v7 = .int .u64 x7_2 ∧ v8 = .int .i64 x8_2 ∧ Aside0 (ferruleref01_TakeNum.l1 kq a0 x5_1 x7_2 x8_2 = some (r1, r2, r3)) ∧ Aside0 (kq ≤ k1) ∧ Drawn0 w w')
              case atStart => exact ⟨(IntKind.u64.wrap (Int.tmod (bt a0 0) 64)), (1), (by first | rfl | (simp; done) | (simp [*]; done)), (by first | rfl | (simp; done) | (simp [*]; done)), H', ⟨Nat.le_refl _⟩, by repeat (first | exact Drawn0.refl _ | apply Drawn0.step)⟩
              case round =>
                clear H'
                try clear c2
                try clear c2b0
                try clear c2b1
                try clear p2
                try clear c3
                try clear c3b0
                try clear c3b1
                try clear p4
                try clear q4
                try clear hx4
                try clear qi4
                try clear c5
                try clear c5b0
                try clear c6
                try clear c6b0
                try clear p6
                try clear c7
                try clear p7
                try clear q7
                try clear hx7
                try clear qi7
                try clear p2
                try clear p4
                try clear p7
                try clear q4
                try clear q7
                obtain ⟨x7_2, x8_2, rfl, rfl, HA, HK2, ⟨m2, rfl⟩⟩ := hrel
                cases gk with
                | zero => exact absurd HA.out (by simp [ferruleref01_TakeNum.l1])
                | succ k2 =>
                  have H := HA.out
                  clear HA
                  simp only [ferruleref01_TakeNum.l1] at H
                  by_cases c8 : x8_2 < x5_1
                  · rw [if_pos c8] at H
                    have c8b0 : decide (x8_2 < x5_1) = true := decide_eq_true c8
                    clear c8
                    by_cases c9 : 0 ≤ x8_2
                    · rw [if_pos c9] at H
                      have c9b0 : decide (0 ≤ x8_2) = true := decide_eq_true c9
                      clear c9
                      by_cases c10 : x8_2 < (a0.size : Int)
                      · rw [if_pos c10] at H
                        have c10b0 : decide (x8_2 < (a0.size : Int)) = true := decide_eq_true c10
                        clear c10
                        have H' := Aside0.mk H
                        clear H
                        have p11 : 0 ≤ (x8_2 : Int) := of_decide_eq_true (by first | (with_reducible assumption) | assumption)
                        have q11 : x8_2 < (a0.size : Int) := of_decide_eq_true (by first | (with_reducible assumption) | assumption)
                        have hx11 := bt_at a0 x8_2
                        replace p11 := eq_true p11
                        replace q11 := eq_true q11
                        go_wp2
                        repeat (go_quiet (fail); try go_wp2)
                        go_roundg k2
                        case measure => have := HK1.out; have := HK2.out; omega
                        case rel => exact ⟨(IntKind.u64.wrap ((IntKind.u64.wrap (x7_2 * 256)) + (IntKind.u64.wrap (bt a0 x8_2)))), (wrap64 (x8_2 + 1)), (by first | rfl | (simp; done) | (simp [*]; done)), (by first | rfl | (simp; done) | (simp [*]; done)), H', ⟨by have := HK1.out; have := HK2.out; omega⟩, by repeat (first | exact Drawn0.refl _ | apply Drawn0.step)⟩
                      · rw [if_neg c10] at H
                        exact absurd H (by simp)
                    · rw [if_neg c9] at H
                      exact absurd H (by simp)
                  · rw [if_neg c8] at H
                    have c8b0 : decide (x8_2 < x5_1) = false := decide_eq_false c8
                    clear c8
                    replace H := Option.bind_eq_some_iff.mp H
                    obtain ⟨t486, A120, H⟩ := H
                    replace H : (if t486 = x5_1 then (if 0 ≤ x5_1 then (if x5_1 ≤ (a0.size : Int) then (some (x7_2, a0.extract (x5_1 : Int).toNat a0.size, 0)) else (none)) else (none)) else (some (0, (⟨#[]⟩ : ByteArray), 3))) = some (r1, r2, r3) := H
                    have A12 := Aside0.mk A120
                    clear A120
                    by_cases c13 : t486 = x5_1
                    · rw [if_pos c13] at H
                      have c13b0 : (t486 == x5_1) = true := beq_iff_eq.mpr c13
                      have c13b1 : (t486 != x5_1) = false := bne_eq_false_iff_eq.mpr c13
                      clear c13
                      by_cases c14 : 0 ≤ x5_1
                      · rw [if_pos c14] at H
                        have c14b0 := eq_true c14
                        have c14b1 : decide (0 ≤ x5_1) = true := decide_eq_true c14
                        clear c14
                        by_cases c15 : x5_1 ≤ (a0.size : Int)
                        · rw [if_pos c15] at H
                          have c15b0 := eq_true c15
                          have c15b1 : decide (x5_1 ≤ (a0.size : Int)) = true := decide_eq_true c15
                          clear c15
                          simp only [Option.some.injEq, Prod.mk.injEq] at H
                          obtain ⟨rfl, rfl, rfl⟩ := H
                          go_wp2_with (first | (go_at_call 87; (with_reducible refine (ferruleref01_Size.calls x7_2 t486 _ A12.out).mono ?_); rintro e w' ⟨rfl, ⟨nd, rfl⟩⟩; (try first | exact ⟨rfl, _, World.drewN_drewN _ _ _⟩ | exact ⟨rfl, _, Eq.trans (World.drewN_drewN _ _ _) (congrArg (World.drewN _) (Nat.add_assoc _ _ _))⟩)))
                          repeat (go_quiet (first | (go_at_call 87; (with_reducible refine (ferruleref01_Size.calls x7_2 t486 _ A12.out).mono ?_); rintro e w' ⟨rfl, ⟨nd, rfl⟩⟩; (try first | exact ⟨rfl, _, World.drewN_drewN _ _ _⟩ | exact ⟨rfl, _, Eq.trans (World.drewN_drewN _ _ _) (congrArg (World.drewN _) (Nat.add_assoc _ _ _))⟩))); try go_wp2_with (first | (go_at_call 87; (with_reducible refine (ferruleref01_Size.calls x7_2 t486 _ A12.out).mono ?_); rintro e w' ⟨rfl, ⟨nd, rfl⟩⟩; (try first | exact ⟨rfl, _, World.drewN_drewN _ _ _⟩ | exact ⟨rfl, _, Eq.trans (World.drewN_drewN _ _ _) (congrArg (World.drewN _) (Nat.add_assoc _ _ _))⟩))))
                          go_ret3
                          exact ⟨by first | rfl | (simp; done) | (simp [*]; done), by repeat (first | exact Drawn0.refl _ | apply Drawn0.step)⟩
                        · rw [if_neg c15] at H
                          exact absurd H (by simp)
                      · rw [if_neg c14] at H
                        exact absurd H (by simp)
                    · rw [if_neg c13] at H
                      have c13b0 : (t486 == x5_1) = false := beq_eq_false_iff_ne.mpr c13
                      have c13b1 : (t486 != x5_1) = true := bne_iff_ne.mpr c13
                      simp only [Option.some.injEq, Prod.mk.injEq] at H
                      obtain ⟨rfl, rfl, rfl⟩ := H
                      go_wp2_with (first | (go_at_call 87; (with_reducible refine (ferruleref01_Size.calls x7_2 t486 _ A12.out).mono ?_); rintro e w' ⟨rfl, ⟨nd, rfl⟩⟩; (try first | exact ⟨rfl, _, World.drewN_drewN _ _ _⟩ | exact ⟨rfl, _, Eq.trans (World.drewN_drewN _ _ _) (congrArg (World.drewN _) (Nat.add_assoc _ _ _))⟩)))
                      repeat (go_quiet (first | (go_at_call 87; (with_reducible refine (ferruleref01_Size.calls x7_2 t486 _ A12.out).mono ?_); rintro e w' ⟨rfl, ⟨nd, rfl⟩⟩; (try first | exact ⟨rfl, _, World.drewN_drewN _ _ _⟩ | exact ⟨rfl, _, Eq.trans (World.drewN_drewN _ _ _) (congrArg (World.drewN _) (Nat.add_assoc _ _ _))⟩))); try go_wp2_with (first | (go_at_call 87; (with_reducible refine (ferruleref01_Size.calls x7_2 t486 _ A12.out).mono ?_); rintro e w' ⟨rfl, ⟨nd, rfl⟩⟩; (try first | exact ⟨rfl, _, World.drewN_drewN _ _ _⟩ | exact ⟨rfl, _, Eq.trans (World.drewN_drewN _ _ _) (congrArg (World.drewN _) (Nat.add_assoc _ _ _))⟩))))
                      go_ret3
                      exact ⟨by first | rfl | (simp; done) | (simp [*]; done), by repeat (first | exact Drawn0.refl _ | apply Drawn0.step)⟩
        · rw [if_neg c3] at H
          exact absurd H (by simp)
end Go.Proofs.Ytfjhlcbpogihmaa.Pr
end
section
namespace Go.Proofs.Ytfjhlcbpogihmaa.Pr
open Go.RowKit Go.Proofs.YtfjhlcbpogihmaaW.PrintWords Go.Proofs.YtfjhlcbpogihmaaW.PrintLast Go.Proofs.YtfjhlcbpogihmaaW.PrintMore
attribute [local go_sem] max2_int min2_int max_two min_two max_three min_three max_four min_four
set_option linter.unusedVariables false
set_option linter.unusedSimpArgs false
/-! ### ferruleref01_TakeNums: function 74 -/
mutual
def ferruleref01_TakeNums.j0 : Nat → Int → ByteArray → Bool → Option (List Int × ByteArray × Int)
  | 0, _, _, _ => none
  | k + 1, x7, x8, x31 => if x31 = true then (some (([] : List Int), (⟨#[]⟩ : ByteArray), 4)) else (ferruleref01_TakeNums.l0 k x7 x8 ([] : List Int) 0)
def ferruleref01_TakeNums.l0 : Nat → Int → ByteArray → List Int → Int → Option (List Int × ByteArray × Int)
  | 0, _, _, _, _ => none
  | k + 1, x7, x8, x10, x11 => if x11 < x7 then ((ferruleref01_TakeNum.f k x8).bind fun bt495 => (if bt495.2.2 = 0 then (if x10.length < 17592186044416 then (ferruleref01_TakeNums.l0 k x7 bt495.2.1 (x10 ++ [bt495.1]) (IntKind.u64.wrap (x11 + 1))) else (none)) else (some (([] : List Int), (⟨#[]⟩ : ByteArray), bt495.2.2)))) else (some (x10, x8, 0))
end
def ferruleref01_TakeNums.f (k : Nat) (a0 : ByteArray) (a1 : Int) : Option (List Int × ByteArray × Int) := (ferruleref01_TakeNum.f k a0).bind fun bt492 => (if bt492.2.2 = 0 then (if a1 < 0 then (ferruleref01_TakeNums.j0 k bt492.1 bt492.2.1 true) else (ferruleref01_TakeNums.j0 k bt492.1 bt492.2.1 (decide (bt492.1 > (IntKind.u64.wrap (a1)))))) else (some (([] : List Int), (⟨#[]⟩ : ByteArray), bt492.2.2)))
set_option maxHeartbeats 8000000 in
set_option maxRecDepth 100000 in
theorem ferruleref01_TakeNums.calls (k : Nat) (a0 : ByteArray) (a1 : Int) (r1 : List Int) (r2 : ByteArray) (r3 : Int) (w : World) (h : ferruleref01_TakeNums.f k a0 a1 = some (r1, r2, r3)) :
    Calls Try.prog 74 #[.string a0, .int .i64 a1] w fun e w' => ∃ v0_ : Value, e = .returned (.tuple #[v0_, .string r2, .int .i64 r3]) ∧ Kd.R (Kd.int .u64) 25 w' w.heap.size (fun _ => True) v0_ r1 ∧ Below w.heap.size w w' := by
  have HB := Aside0.mk (Below.refl w.heap.size w)
  have H : ((ferruleref01_TakeNum.f k a0).bind fun bt492 => (if bt492.2.2 = 0 then (if a1 < 0 then (ferruleref01_TakeNums.j0 k bt492.1 bt492.2.1 true) else (ferruleref01_TakeNums.j0 k bt492.1 bt492.2.1 (decide (bt492.1 > (IntKind.u64.wrap (a1)))))) else (some (([] : List Int), (⟨#[]⟩ : ByteArray), bt492.2.2)))) = some (r1, r2, r3) := h
  clear h
  replace H := Option.bind_eq_some_iff.mp H
  obtain ⟨⟨t492, t493, t494⟩, A30, H⟩ := H
  replace H : (if t494 = 0 then (if a1 < 0 then (ferruleref01_TakeNums.j0 k t492 t493 true) else (ferruleref01_TakeNums.j0 k t492 t493 (decide (t492 > (IntKind.u64.wrap (a1)))))) else (some (([] : List Int), (⟨#[]⟩ : ByteArray), t494))) = some (r1, r2, r3) := H
  have A3 := Aside0.mk A30
  clear A30
  by_cases c4 : t494 = 0
  · rw [if_pos c4] at H
    have c4b0 : (t494 == 0) = true := beq_iff_eq.mpr c4
    have c4b1 : (t494 != 0) = false := bne_eq_false_iff_eq.mpr c4
    clear c4
    have HC5 := Aside0.mk H
    clear H
    go_enter Try.func74, Try.ntmps74
    go_upto_region 4 with (first | ((with_reducible refine gate_callee (f := 75) rfl ?_); refine goesL_ (some 17) rfl rfl Try.func75 (by kernel_rfl) rfl #[.string a0] rfl (by (try simp only [List.map_toArray, List.map_cons, List.map_nil]); first | done | rfl | (simp only [List.length_drop, List.length_take]; rfl)) ?_; (with_reducible refine (ferruleref01_TakeNum.calls k a0 t492 t493 t494 _ A3.out).mono ?_); rintro e w' ⟨rfl, ⟨nd, rfl⟩⟩; refine ⟨_, rfl, ?_⟩))
    (try simp only [Act.put, List.setIfInBounds_toArray, List.set_cons_zero, List.set_cons_succ])
    go_cut [31] (fun v31 wc => ∃ (kq : Nat) (x31_4 : Bool), v31 = .bool x31_4 ∧ Aside0 (ferruleref01_TakeNums.j0 kq t492 t493 x31_4 = some (r1, r2, r3)) ∧ Aside0 (kq ≤ k) ∧ Aside0 (Below w.heap.size w wc))
    case first =>
      have H := HC5.out
      clear HC5
      by_cases c6 : a1 < 0
      · rw [if_pos c6] at H
        have c6b0 : decide (a1 < 0) = true := decide_eq_true c6
        clear c6
        (first | rw [c6b0] | (simp only [i64_w, i32_w]; rw [c6b0]) | skip)
        have H' := Aside0.mk H
        clear H
        go_wp2
        go_meet
        case rel => exact ⟨_, (true), (by first | rfl | (simp; done) | (simp [*]; done)), H', ⟨by first | omega | exact Nat.le_refl _⟩, ⟨by repeat (first | (with_reducible first | exact HB.out | apply below_alloc | apply pw_below_drewN | apply below_drew1) | exact HB.out)⟩⟩
      · rw [if_neg c6] at H
        have c6b0 : decide (a1 < 0) = false := decide_eq_false c6
        clear c6
        (first | rw [c6b0] | (simp only [i64_w, i32_w]; rw [c6b0]) | skip)
        have H' := Aside0.mk H
        clear H
        go_wp2
        go_meet
        case rel => exact ⟨_, (decide (t492 > (IntKind.u64.wrap (a1)))), (by first | rfl | (simp; done) | (simp [*]; done)), H', ⟨by first | omega | exact Nat.le_refl _⟩, ⟨by repeat (first | (with_reducible first | exact HB.out | apply below_alloc | apply pw_below_drewN | apply below_drew1) | exact HB.out)⟩⟩
    case rest =>
      clear HC5
      try clear p2
      try clear c4
      try clear c4b0
      try clear c4b1
      try clear c6
      try clear c6b0
      obtain ⟨kq, x31_4, rfl, HA, HJ4, HB⟩ := hcut
      cases kq with
      | zero => exact absurd HA.out (by simp [ferruleref01_TakeNums.j0])
      | succ kj4 =>
        have H := HA.out
        clear HA
        simp only [ferruleref01_TakeNums.j0] at H
        by_cases c7 : x31_4 = true
        · subst c7
          have H1 : (some (([] : List Int), (⟨#[]⟩ : ByteArray), 4)) = some (r1, r2, r3) := by rw [if_pos rfl] at H; exact H
          clear H
          have H := H1
          clear H1
          simp only [Option.some.injEq, Prod.mk.injEq] at H
          obtain ⟨rfl, rfl, rfl⟩ := H
          go_wp2
          go_ret3
          exact ⟨_, by first | rfl | (simp [errW_none, errW_some] <;> rfl) | (simp [*, errW_none, errW_some] <;> rfl), by first | exact Kd.R_nil _ _ _ _ _ | exact Kd.N_nil _ _ _ _ _ | exact Kd.V_nil _ _ _ _ _ | exact Kd.Q_nil _ _ _ _ _ | exact Kd.S_nil _ _ _ _ _, by repeat (first | (with_reducible first | exact HB.out | apply below_alloc | apply pw_below_drewN | apply below_drew1) | exact HB.out)⟩
        · replace c7 := Bool.eq_false_iff.mpr c7
          subst c7
          have H1 : (ferruleref01_TakeNums.l0 kj4 t492 t493 ([] : List Int) 0) = some (r1, r2, r3) := by rw [if_neg (show ¬ (false = true) by decide)] at H; exact H
          clear H
          have H := H1
          clear H1
          have H' := Aside0.mk H
          clear H
          go_wp2
          go_loopg [8, 10, 11] kj4 (fun kq v8 v10 v11 w' => ∃ (x8_2 : ByteArray) (x10_2 : List Int) (x11_2 : Int), v8 = .string x8_2 ∧ v11 = .int .u64 x11_2 ∧ Aside0 (ferruleref01_TakeNums.l0 kq t492 x8_2 x10_2 x11_2 = some (r1, r2, r3)) ∧ Aside0 (kq ≤ kj4) ∧ Aside0 (Kd.R (Kd.int .u64) 25 w' w.heap.size (fun _ => True) v10 x10_2) ∧ Aside0 (Below w.heap.size w w'))
          case atStart => exact ⟨(t493), (([] : List Int)), (0), (by first | rfl | (simp; done) | (simp [*]; done)), (by first | rfl | (simp; done) | (simp [*]; done)), H', ⟨Nat.le_refl _⟩, ⟨by first | exact Kd.R_nil _ _ _ _ _ | exact Kd.N_nil _ _ _ _ _ | exact Kd.V_nil _ _ _ _ _ | exact Kd.Q_nil _ _ _ _ _ | exact Kd.S_nil _ _ _ _ _⟩, ⟨by repeat (first | (with_reducible first | exact HB.out | apply below_alloc | apply pw_below_drewN | apply below_drew1) | exact HB.out)⟩⟩
          case round =>
            clear H'
            try clear p2
            try clear c4
            try clear c4b0
            try clear c4b1
            try clear c6
            try clear c6b0
            try clear c7
            try clear p2
            obtain ⟨x8_2, x10_2, x11_2, rfl, rfl, HA, HK2, HO_10, HB⟩ := hrel
            cases gk with
            | zero => exact absurd HA.out (by simp [ferruleref01_TakeNums.l0])
            | succ k2 =>
              have H := HA.out
              clear HA
              simp only [ferruleref01_TakeNums.l0] at H
              by_cases c8 : x11_2 < t492
              · rw [if_pos c8] at H
                have c8b0 : decide (x11_2 < t492) = true := decide_eq_true c8
                clear c8
                replace H := Option.bind_eq_some_iff.mp H
                obtain ⟨⟨t495, t496, t497⟩, A90, H⟩ := H
                replace H : (if t497 = 0 then (if x10_2.length < 17592186044416 then (ferruleref01_TakeNums.l0 k2 t492 t496 (x10_2 ++ [t495]) (IntKind.u64.wrap (x11_2 + 1))) else (none)) else (some (([] : List Int), (⟨#[]⟩ : ByteArray), t497))) = some (r1, r2, r3) := H
                have A9 := Aside0.mk A90
                clear A90
                by_cases c10 : t497 = 0
                · rw [if_pos c10] at H
                  have c10b0 : (t497 == 0) = true := beq_iff_eq.mpr c10
                  have c10b1 : (t497 != 0) = false := bne_eq_false_iff_eq.mpr c10
                  clear c10
                  by_cases c11 : x10_2.length < 17592186044416
                  · rw [if_pos c11] at H
                    have LMc11 := Aside0.mk c11
                    clear c11
                    obtain ⟨y498, hy498⟩ : ∃ y_ : List Int, y_ = (x10_2 ++ [t495]) := ⟨_, rfl⟩
                    replace H : (ferruleref01_TakeNums.l0 k2 t492 t496 y498 (IntKind.u64.wrap (x11_2 + 1))) = some (r1, r2, r3) := by first | (rw [hy498]; with_reducible exact H) | (have H2_ := (Option.bind_some _ _).symm.trans H; rw [hy498]; with_reducible exact H2_) | (have H2_ := (Option.bind_some _ _).symm.trans H; with_reducible exact H2_) | with_reducible exact H | (rw [hy498]; exact H) | exact H
                    have Ny498 := Aside0.mk hy498
                    clear hy498
                    have H' := Aside0.mk H
                    clear H
                    go_wp2_with (first | ((with_reducible refine gate_callee (f := 75) rfl ?_); refine goesL_ (some 39) rfl rfl Try.func75 (by kernel_rfl) rfl #[.string x8_2] rfl (by (try simp only [List.map_toArray, List.map_cons, List.map_nil]); first | done | rfl | (simp only [List.length_drop, List.length_take]; rfl)) ?_; (with_reducible refine (ferruleref01_TakeNum.calls k2 x8_2 t495 t496 t497 _ A9.out).mono ?_); rintro e w' ⟨rfl, ⟨nd, rfl⟩⟩; refine ⟨_, rfl, ?_⟩) | ((with_reducible refine gate_builtin (b := .append) (xs := #[.tmp 46, .tmp 48]) rfl ?_); at_builtin; refine Kd.R_append (Kd.int .u64) (w0 := w) w.heap.size rfl (.tmp 46) (.tmp 48) 79 25 (.int .u64 0) 8 rfl Try.underlying79 info25 rfl (by decide) (by omega) u10 x10_2 t495 [.int .u64 t495] (fun _ => True) (fun _ => False) rfl rfl ?aP (fun _ hk => hk.elim) ?aF ?aO ?aB ?aS ?aL ?_; (case aP => exact rfl); (case aB => exact (by repeat (first | (with_reducible first | exact HB.out | apply below_alloc | apply pw_below_drewN | apply below_drew1) | exact HB.out))); (case aF => exact (fun _ _ => trivial)); (case aO => exact (by (with_reducible repeat (first | apply Kd.R_alloc | apply Kd.R_drewN | apply Kd.R_drew)); exact HO_10.out)); (case aS => exact (below_size (by repeat (first | (with_reducible first | exact HB.out | apply below_alloc | apply pw_below_drewN | apply below_drew1) | exact HB.out)))); (case aL => have := LMc11.out; omega); intro v499 w12 ho hb hg hat; rw [← Ny498.out] at ho; have n0_ := Aside0.mk (hb); have n1_ := Aside0.mk (ho); clear HB; clear HO_10; have HB := n0_; have HO500 := n1_; clear n0_ n1_; clear ho hb hg hat))
                    go_roundg k2
                    case measure => have := HJ4.out; have := HK2.out; omega
                    case rel => exact ⟨(t496), (y498), (IntKind.u64.wrap (x11_2 + 1)), (by first | rfl | (simp; done) | (simp [*]; done)), (by first | rfl | (simp; done) | (simp [*]; done)), H', ⟨by have := HJ4.out; have := HK2.out; omega⟩, ⟨by (with_reducible repeat (first | apply Kd.R_alloc | apply Kd.R_drewN | apply Kd.R_drew)); exact HO500.out⟩, ⟨by repeat (first | (with_reducible first | exact HB.out | apply below_alloc | apply pw_below_drewN | apply below_drew1) | exact HB.out)⟩⟩
                  · rw [if_neg c11] at H
                    exact absurd H (by simp)
                · rw [if_neg c10] at H
                  have c10b0 : (t497 == 0) = false := beq_eq_false_iff_ne.mpr c10
                  have c10b1 : (t497 != 0) = true := bne_iff_ne.mpr c10
                  simp only [Option.some.injEq, Prod.mk.injEq] at H
                  obtain ⟨rfl, rfl, rfl⟩ := H
                  go_wp2_with (first | ((with_reducible refine gate_callee (f := 75) rfl ?_); refine goesL_ (some 39) rfl rfl Try.func75 (by kernel_rfl) rfl #[.string x8_2] rfl (by (try simp only [List.map_toArray, List.map_cons, List.map_nil]); first | done | rfl | (simp only [List.length_drop, List.length_take]; rfl)) ?_; (with_reducible refine (ferruleref01_TakeNum.calls k2 x8_2 t495 t496 t497 _ A9.out).mono ?_); rintro e w' ⟨rfl, ⟨nd, rfl⟩⟩; refine ⟨_, rfl, ?_⟩))
                  go_ret3
                  exact ⟨_, by first | rfl | (simp [errW_none, errW_some] <;> rfl) | (simp [*, errW_none, errW_some] <;> rfl), by first | exact Kd.R_nil _ _ _ _ _ | exact Kd.N_nil _ _ _ _ _ | exact Kd.V_nil _ _ _ _ _ | exact Kd.Q_nil _ _ _ _ _ | exact Kd.S_nil _ _ _ _ _, by repeat (first | (with_reducible first | exact HB.out | apply below_alloc | apply pw_below_drewN | apply below_drew1) | exact HB.out)⟩
              · rw [if_neg c8] at H
                have c8b0 : decide (x11_2 < t492) = false := decide_eq_false c8
                clear c8
                simp only [Option.some.injEq, Prod.mk.injEq] at H
                obtain ⟨rfl, rfl, rfl⟩ := H
                go_wp2
                go_ret3
                exact ⟨_, by first | rfl | (simp [errW_none, errW_some] <;> rfl) | (simp [*, errW_none, errW_some] <;> rfl), by (with_reducible repeat (first | apply Kd.R_alloc | apply Kd.R_drewN | apply Kd.R_drew)); exact HO_10.out, by repeat (first | (with_reducible first | exact HB.out | apply below_alloc | apply pw_below_drewN | apply below_drew1) | exact HB.out)⟩
  · rw [if_neg c4] at H
    have c4b0 : (t494 == 0) = false := beq_eq_false_iff_ne.mpr c4
    have c4b1 : (t494 != 0) = true := bne_iff_ne.mpr c4
    simp only [Option.some.injEq, Prod.mk.injEq] at H
    obtain ⟨rfl, rfl, rfl⟩ := H
    go_enter Try.func74, Try.ntmps74
    go_wp2_with (first | ((with_reducible refine gate_callee (f := 75) rfl ?_); refine goesL_ (some 17) rfl rfl Try.func75 (by kernel_rfl) rfl #[.string a0] rfl (by (try simp only [List.map_toArray, List.map_cons, List.map_nil]); first | done | rfl | (simp only [List.length_drop, List.length_take]; rfl)) ?_; (with_reducible refine (ferruleref01_TakeNum.calls k a0 t492 t493 t494 _ A3.out).mono ?_); rintro e w' ⟨rfl, ⟨nd, rfl⟩⟩; refine ⟨_, rfl, ?_⟩))
    go_ret3
    exact ⟨_, by first | rfl | (simp [errW_none, errW_some] <;> rfl) | (simp [*, errW_none, errW_some] <;> rfl), by first | exact Kd.R_nil _ _ _ _ _ | exact Kd.N_nil _ _ _ _ _ | exact Kd.V_nil _ _ _ _ _ | exact Kd.Q_nil _ _ _ _ _ | exact Kd.S_nil _ _ _ _ _, by repeat (first | (with_reducible first | exact HB.out | apply below_alloc | apply pw_below_drewN | apply below_drew1) | exact HB.out)⟩
end Go.Proofs.Ytfjhlcbpogihmaa.Pr
end
section
namespace Go.Proofs.Ytfjhlcbpogihmaa.Pr
open Go.RowKit Go.Proofs.YtfjhlcbpogihmaaW.PrintWords Go.Proofs.YtfjhlcbpogihmaaW.PrintLast Go.Proofs.YtfjhlcbpogihmaaW.PrintMore
set_option linter.unusedVariables false
set_option linter.unusedSimpArgs false
/-- How many bits. -/
def bl (n : Nat) : Nat := if n = 0 then 0 else Nat.log2 n + 1
theorem bl_lt {n k : Nat} : bl n ≤ k ↔ n < 2 ^ k := by
  unfold bl
  by_cases h : n = 0
  · subst h; simp; exact Nat.pow_pos (by omega)
  · rw [if_neg h, ← Nat.log2_lt h]; omega
theorem bl_unique {n m : Nat} (h : ∀ k, n < 2 ^ k ↔ m ≤ k) : bl n = m := Nat.le_antisymm (bl_lt.2 ((h m).2 (Nat.le_refl _))) ((h (bl n)).1 (bl_lt.1 (Nat.le_refl _)))
theorem bl_div {n j : Nat} (hj : 2 ^ j ≤ n) : bl n = j + bl (n / 2 ^ j) := by
  refine bl_unique fun k => ?_
  by_cases hk : j ≤ k
  · rw [show j + bl (n / 2 ^ j) ≤ k ↔ bl (n / 2 ^ j) ≤ k - j from by omega, bl_lt, Nat.div_lt_iff_lt_mul (Nat.pow_pos (by omega)), ← Nat.pow_add, Nat.sub_add_cancel hk]
  · have := Nat.pow_le_pow_right (show 2 > 0 by omega) (show k ≤ j by omega)
    exact ⟨fun h => by omega, fun h => by omega⟩
set_option maxRecDepth 100000 in
theorem tab_bl : ∀ i : Fin 256, (((⟨#[0, 1, 2, 2, 3, 3, 3, 3, 4, 4, 4, 4, 4, 4, 4, 4, 5, 5, 5, 5, 5, 5, 5, 5, 5, 5, 5, 5, 5, 5, 5, 5, 6, 6, 6, 6, 6, 6, 6, 6, 6, 6, 6, 6, 6, 6, 6, 6, 6, 6, 6, 6, 6, 6, 6, 6, 6, 6, 6, 6, 6, 6, 6, 6, 7, 7, 7, 7, 7, 7, 7, 7, 7, 7, 7, 7, 7, 7, 7, 7, 7, 7, 7, 7, 7, 7, 7, 7, 7, 7, 7, 7, 7, 7, 7, 7, 7, 7, 7, 7, 7, 7, 7, 7, 7, 7, 7, 7, 7, 7, 7, 7, 7, 7, 7, 7, 7, 7, 7, 7, 7, 7, 7, 7, 7, 7, 7, 7, 8, 8, 8, 8, 8, 8, 8, 8, 8, 8, 8, 8, 8, 8, 8, 8, 8, 8, 8, 8, 8, 8, 8, 8, 8, 8, 8, 8, 8, 8, 8, 8, 8, 8, 8, 8, 8, 8, 8, 8, 8, 8, 8, 8, 8, 8, 8, 8, 8, 8, 8, 8, 8, 8, 8, 8, 8, 8, 8, 8, 8, 8, 8, 8, 8, 8, 8, 8, 8, 8, 8, 8, 8, 8, 8, 8, 8, 8, 8, 8, 8, 8, 8, 8, 8, 8, 8, 8, 8, 8, 8, 8, 8, 8, 8, 8, 8, 8, 8, 8, 8, 8, 8, 8, 8, 8, 8, 8, 8, 8, 8, 8, 8, 8, 8, 8, 8, 8, 8, 8, 8, 8, 8, 8, 8, 8, 8, 8]⟩ : ByteArray)[i.val]'(by have := i.isLt; show i.val < 256; exact this)).toNat) = bl i.val := by decide +kernel
theorem tab_bl' (v : Int) (h0 : 0 ≤ v) (h1 : v < 256) (h : v.toNat < ((⟨#[0, 1, 2, 2, 3, 3, 3, 3, 4, 4, 4, 4, 4, 4, 4, 4, 5, 5, 5, 5, 5, 5, 5, 5, 5, 5, 5, 5, 5, 5, 5, 5, 6, 6, 6, 6, 6, 6, 6, 6, 6, 6, 6, 6, 6, 6, 6, 6, 6, 6, 6, 6, 6, 6, 6, 6, 6, 6, 6, 6, 6, 6, 6, 6, 7, 7, 7, 7, 7, 7, 7, 7, 7, 7, 7, 7, 7, 7, 7, 7, 7, 7, 7, 7, 7, 7, 7, 7, 7, 7, 7, 7, 7, 7, 7, 7, 7, 7, 7, 7, 7, 7, 7, 7, 7, 7, 7, 7, 7, 7, 7, 7, 7, 7, 7, 7, 7, 7, 7, 7, 7, 7, 7, 7, 7, 7, 7, 7, 8, 8, 8, 8, 8, 8, 8, 8, 8, 8, 8, 8, 8, 8, 8, 8, 8, 8, 8, 8, 8, 8, 8, 8, 8, 8, 8, 8, 8, 8, 8, 8, 8, 8, 8, 8, 8, 8, 8, 8, 8, 8, 8, 8, 8, 8, 8, 8, 8, 8, 8, 8, 8, 8, 8, 8, 8, 8, 8, 8, 8, 8, 8, 8, 8, 8, 8, 8, 8, 8, 8, 8, 8, 8, 8, 8, 8, 8, 8, 8, 8, 8, 8, 8, 8, 8, 8, 8, 8, 8, 8, 8, 8, 8, 8, 8, 8, 8, 8, 8, 8, 8, 8, 8, 8, 8, 8, 8, 8, 8, 8, 8, 8, 8, 8, 8, 8, 8, 8, 8, 8, 8, 8, 8, 8, 8, 8, 8]⟩ : ByteArray)).size) : (((⟨#[0, 1, 2, 2, 3, 3, 3, 3, 4, 4, 4, 4, 4, 4, 4, 4, 5, 5, 5, 5, 5, 5, 5, 5, 5, 5, 5, 5, 5, 5, 5, 5, 6, 6, 6, 6, 6, 6, 6, 6, 6, 6, 6, 6, 6, 6, 6, 6, 6, 6, 6, 6, 6, 6, 6, 6, 6, 6, 6, 6, 6, 6, 6, 6, 7, 7, 7, 7, 7, 7, 7, 7, 7, 7, 7, 7, 7, 7, 7, 7, 7, 7, 7, 7, 7, 7, 7, 7, 7, 7, 7, 7, 7, 7, 7, 7, 7, 7, 7, 7, 7, 7, 7, 7, 7, 7, 7, 7, 7, 7, 7, 7, 7, 7, 7, 7, 7, 7, 7, 7, 7, 7, 7, 7, 7, 7, 7, 7, 8, 8, 8, 8, 8, 8, 8, 8, 8, 8, 8, 8, 8, 8, 8, 8, 8, 8, 8, 8, 8, 8, 8, 8, 8, 8, 8, 8, 8, 8, 8, 8, 8, 8, 8, 8, 8, 8, 8, 8, 8, 8, 8, 8, 8, 8, 8, 8, 8, 8, 8, 8, 8, 8, 8, 8, 8, 8, 8, 8, 8, 8, 8, 8, 8, 8, 8, 8, 8, 8, 8, 8, 8, 8, 8, 8, 8, 8, 8, 8, 8, 8, 8, 8, 8, 8, 8, 8, 8, 8, 8, 8, 8, 8, 8, 8, 8, 8, 8, 8, 8, 8, 8, 8, 8, 8, 8, 8, 8, 8, 8, 8, 8, 8, 8, 8, 8, 8, 8, 8, 8, 8, 8, 8, 8, 8, 8, 8]⟩ : ByteArray)[v.toNat]'h).toNat : Int) = (bl v.toNat : Int) := by
  have h2 : v.toNat < 256 := by omega
  exact congrArg (Int.ofNat ·) (tab_bl ⟨v.toNat, h2⟩)
theorem bl_small {v : Int} (h0 : 0 ≤ v) (h1 : v < 256) : (bl v.toNat : Int) ≤ 8 := by have := (bl_lt (n := v.toNat) (k := 8)).2 (by omega); omega
theorem bl_nn (n : Nat) : 0 ≤ (bl n : Int) := by omega
def bits_Len64.f (a0 : Int) : Option Int := some (bl a0.toNat : Int)
theorem ret_i64 {a b : Int} (h : a = b) : Ending.returned (.int .i64 a) = .returned (.int .i64 b) := by rw [h]
set_option maxHeartbeats 8000000 in
set_option maxRecDepth 100000 in
theorem bits_Len64.calls0 (a0 : Int) (h0 : 0 ≤ a0) (h1 : a0 ≤ 18446744073709551615) (w : World) : Calls Try.prog 84 #[.int .u64 a0] w fun e w' => e = .returned (.int .i64 (bl a0.toNat : Int)) ∧ w = w' := by
  by_cases c0 : 4294967296 ≤ a0
  · have b0 := decide_eq_true c0
    by_cases c1 : 65536 ≤ a0 / 4294967296
    · have b1 := decide_eq_true c1
      by_cases c2 : 256 ≤ a0 / 4294967296 / 65536
      · have b2 := decide_eq_true c2
        have hx0 : 0 ≤ a0 / 4294967296 / 65536 / 256 := by omega
        have hx1 : a0 / 4294967296 / 65536 / 256 < 256 := by omega
        have hb := bl_small hx0 hx1
        have ht := tab_bl' (a0 / 4294967296 / 65536 / 256) hx0 hx1 (by show (a0 / 4294967296 / 65536 / 256).toNat < 256; omega)
        have hd : (bl a0.toNat : Int) = 56 + bl (a0 / 4294967296 / 65536 / 256).toNat := by
          have := bl_div (n := a0.toNat) (j := 56) (by omega)
          rw [this, show a0.toNat / 2 ^ 56 = (a0 / 4294967296 / 65536 / 256).toNat from by omega]
          rfl
        have HD := Aside0.mk hd
        clear hd
        have HT := Aside0.mk ht
        have HBS := Aside0.mk hb
        clear ht hb
        go_enter Try.func84, Try.ntmps84
        go_wp2
        go_ret
        refine ⟨ret_i64 ?_, rfl⟩
        rw [HD.out, HT.out]
        have e2 := HBS.out
        have e3 := bl_nn (a0 / 4294967296 / 65536 / 256).toNat
        generalize (bl (a0 / 4294967296 / 65536 / 256).toNat : Int) = z at e2 e3 ⊢
        unfold wrap64
        omega
      · have b2 := decide_eq_false c2
        have hx0 : 0 ≤ a0 / 4294967296 / 65536 := by omega
        have hx1 : a0 / 4294967296 / 65536 < 256 := by omega
        have hb := bl_small hx0 hx1
        have ht := tab_bl' (a0 / 4294967296 / 65536) hx0 hx1 (by show (a0 / 4294967296 / 65536).toNat < 256; omega)
        have hd : (bl a0.toNat : Int) = 48 + bl (a0 / 4294967296 / 65536).toNat := by
          have := bl_div (n := a0.toNat) (j := 48) (by omega)
          rw [this, show a0.toNat / 2 ^ 48 = (a0 / 4294967296 / 65536).toNat from by omega]
          rfl
        have HD := Aside0.mk hd
        clear hd
        have HT := Aside0.mk ht
        have HBS := Aside0.mk hb
        clear ht hb
        go_enter Try.func84, Try.ntmps84
        go_wp2
        go_ret
        refine ⟨ret_i64 ?_, rfl⟩
        rw [HD.out, HT.out]
        have e2 := HBS.out
        have e3 := bl_nn (a0 / 4294967296 / 65536).toNat
        generalize (bl (a0 / 4294967296 / 65536).toNat : Int) = z at e2 e3 ⊢
        unfold wrap64
        omega
    · have b1 := decide_eq_false c1
      by_cases c2 : 256 ≤ a0 / 4294967296
      · have b2 := decide_eq_true c2
        have hx0 : 0 ≤ a0 / 4294967296 / 256 := by omega
        have hx1 : a0 / 4294967296 / 256 < 256 := by omega
        have hb := bl_small hx0 hx1
        have ht := tab_bl' (a0 / 4294967296 / 256) hx0 hx1 (by show (a0 / 4294967296 / 256).toNat < 256; omega)
        have hd : (bl a0.toNat : Int) = 40 + bl (a0 / 4294967296 / 256).toNat := by
          have := bl_div (n := a0.toNat) (j := 40) (by omega)
          rw [this, show a0.toNat / 2 ^ 40 = (a0 / 4294967296 / 256).toNat from by omega]
          rfl
        have HD := Aside0.mk hd
        clear hd
        have HT := Aside0.mk ht
        have HBS := Aside0.mk hb
        clear ht hb
        go_enter Try.func84, Try.ntmps84
        go_wp2
        go_ret
        refine ⟨ret_i64 ?_, rfl⟩
        rw [HD.out, HT.out]
        have e2 := HBS.out
        have e3 := bl_nn (a0 / 4294967296 / 256).toNat
        generalize (bl (a0 / 4294967296 / 256).toNat : Int) = z at e2 e3 ⊢
        unfold wrap64
        omega
      · have b2 := decide_eq_false c2
        have hx0 : 0 ≤ a0 / 4294967296 := by omega
        have hx1 : a0 / 4294967296 < 256 := by omega
        have hb := bl_small hx0 hx1
        have ht := tab_bl' (a0 / 4294967296) hx0 hx1 (by show (a0 / 4294967296).toNat < 256; omega)
        have hd : (bl a0.toNat : Int) = 32 + bl (a0 / 4294967296).toNat := by
          have := bl_div (n := a0.toNat) (j := 32) (by omega)
          rw [this, show a0.toNat / 2 ^ 32 = (a0 / 4294967296).toNat from by omega]
          rfl
        have HD := Aside0.mk hd
        clear hd
        have HT := Aside0.mk ht
        have HBS := Aside0.mk hb
        clear ht hb
        go_enter Try.func84, Try.ntmps84
        go_wp2
        go_ret
        refine ⟨ret_i64 ?_, rfl⟩
        rw [HD.out, HT.out]
        have e2 := HBS.out
        have e3 := bl_nn (a0 / 4294967296).toNat
        generalize (bl (a0 / 4294967296).toNat : Int) = z at e2 e3 ⊢
        unfold wrap64
        omega
  · have b0 := decide_eq_false c0
    by_cases c1 : 65536 ≤ a0
    · have b1 := decide_eq_true c1
      by_cases c2 : 256 ≤ a0 / 65536
      · have b2 := decide_eq_true c2
        have hx0 : 0 ≤ a0 / 65536 / 256 := by omega
        have hx1 : a0 / 65536 / 256 < 256 := by omega
        have hb := bl_small hx0 hx1
        have ht := tab_bl' (a0 / 65536 / 256) hx0 hx1 (by show (a0 / 65536 / 256).toNat < 256; omega)
        have hd : (bl a0.toNat : Int) = 24 + bl (a0 / 65536 / 256).toNat := by
          have := bl_div (n := a0.toNat) (j := 24) (by omega)
          rw [this, show a0.toNat / 2 ^ 24 = (a0 / 65536 / 256).toNat from by omega]
          rfl
        have HD := Aside0.mk hd
        clear hd
        have HT := Aside0.mk ht
        have HBS := Aside0.mk hb
        clear ht hb
        go_enter Try.func84, Try.ntmps84
        go_wp2
        go_ret
        refine ⟨ret_i64 ?_, rfl⟩
        rw [HD.out, HT.out]
        have e2 := HBS.out
        have e3 := bl_nn (a0 / 65536 / 256).toNat
        generalize (bl (a0 / 65536 / 256).toNat : Int) = z at e2 e3 ⊢
        unfold wrap64
        omega
      · have b2 := decide_eq_false c2
        have hx0 : 0 ≤ a0 / 65536 := by omega
        have hx1 : a0 / 65536 < 256 := by omega
        have hb := bl_small hx0 hx1
        have ht := tab_bl' (a0 / 65536) hx0 hx1 (by show (a0 / 65536).toNat < 256; omega)
        have hd : (bl a0.toNat : Int) = 16 + bl (a0 / 65536).toNat := by
          have := bl_div (n := a0.toNat) (j := 16) (by omega)
          rw [this, show a0.toNat / 2 ^ 16 = (a0 / 65536).toNat from by omega]
          rfl
        have HD := Aside0.mk hd
        clear hd
        have HT := Aside0.mk ht
        have HBS := Aside0.mk hb
        clear ht hb
        go_enter Try.func84, Try.ntmps84
        go_wp2
        go_ret
        refine ⟨ret_i64 ?_, rfl⟩
        rw [HD.out, HT.out]
        have e2 := HBS.out
        have e3 := bl_nn (a0 / 65536).toNat
        generalize (bl (a0 / 65536).toNat : Int) = z at e2 e3 ⊢
        unfold wrap64
        omega
    · have b1 := decide_eq_false c1
      by_cases c2 : 256 ≤ a0
      · have b2 := decide_eq_true c2
        have hx0 : 0 ≤ a0 / 256 := by omega
        have hx1 : a0 / 256 < 256 := by omega
        have hb := bl_small hx0 hx1
        have ht := tab_bl' (a0 / 256) hx0 hx1 (by show (a0 / 256).toNat < 256; omega)
        have hd : (bl a0.toNat : Int) = 8 + bl (a0 / 256).toNat := by
          have := bl_div (n := a0.toNat) (j := 8) (by omega)
          rw [this, show a0.toNat / 2 ^ 8 = (a0 / 256).toNat from by omega]
          rfl
        have HD := Aside0.mk hd
        clear hd
        have HT := Aside0.mk ht
        have HBS := Aside0.mk hb
        clear ht hb
        go_enter Try.func84, Try.ntmps84
        go_wp2
        go_ret
        refine ⟨ret_i64 ?_, rfl⟩
        rw [HD.out, HT.out]
        have e2 := HBS.out
        have e3 := bl_nn (a0 / 256).toNat
        generalize (bl (a0 / 256).toNat : Int) = z at e2 e3 ⊢
        unfold wrap64
        omega
      · have b2 := decide_eq_false c2
        have hx0 : 0 ≤ a0 := by omega
        have hx1 : a0 < 256 := by omega
        have hb := bl_small hx0 hx1
        have ht := tab_bl' (a0) hx0 hx1 (by show (a0).toNat < 256; omega)
        have HT := Aside0.mk ht
        have HBS := Aside0.mk hb
        clear ht hb
        go_enter Try.func84, Try.ntmps84
        go_wp2
        go_ret
        refine ⟨ret_i64 ?_, rfl⟩
        rw [HT.out]
        have e2 := HBS.out
        have e3 := bl_nn (a0).toNat
        generalize (bl (a0).toNat : Int) = z at e2 e3 ⊢
        unfold wrap64
        omega
end Go.Proofs.Ytfjhlcbpogihmaa.Pr
end
section
namespace Go.Proofs.Ytfjhlcbpogihmaa.Pr
open Go.RowKit Go.Proofs.YtfjhlcbpogihmaaW.PrintWords Go.Proofs.YtfjhlcbpogihmaaW.PrintLast Go.Proofs.YtfjhlcbpogihmaaW.PrintMore
set_option linter.unusedVariables false
set_option linter.unusedSimpArgs false
/-- How many bytes a number has. -/
def sizeI (a0 : Int) : Int := if a0 < 64 then 1 else if a0 < 16384 then 2 else if a0 < 1073741824 then 4 else if a0 < 4611686018427387904 then 8 else 0
def inU64 (a0 : Int) : Prop := 0 ≤ a0 ∧ a0 ≤ 18446744073709551615
instance (a0 : Int) : Decidable (inU64 a0) := inferInstanceAs (Decidable (_ ∧ _))
def pack_Size.f (a0 : Int) : Option Int := if inU64 a0 then some (sizeI a0) else none
set_option maxHeartbeats 4000000 in
set_option maxRecDepth 100000 in
theorem pack_Size.calls0 (a0 : Int) (hi : inU64 a0) (w : World) : Calls Try.prog 53 #[.int .u64 a0] w fun e w' => e = .returned (.int .i64 (sizeI a0)) ∧ w = w' := by
  have HL := Aside0.mk (bits_Len64.calls0 a0 hi.1 hi.2)
  have t6 : bl a0.toNat ≤ 6 ↔ a0 < 64 := by
    rw [bl_lt]
    have := hi.1
    omega
  have t14 : bl a0.toNat ≤ 14 ↔ a0 < 16384 := by
    rw [bl_lt]
    have := hi.1
    omega
  have t30 : bl a0.toNat ≤ 30 ↔ a0 < 1073741824 := by
    rw [bl_lt]
    have := hi.1
    omega
  have t62 : bl a0.toNat ≤ 62 ↔ a0 < 4611686018427387904 := by
    rw [bl_lt]
    have := hi.1
    omega
  obtain ⟨h0, h1⟩ := hi
  generalize bl a0.toNat = z at HL t6 t14 t30 t62
  by_cases c0 : a0 < 64
  · have hs : sizeI a0 = 1 := by unfold sizeI; rw [if_pos c0]
    rw [hs]
    have d6 : decide ((6 : Int) < (z : Int)) = false := decide_eq_false (by omega)
    have d14 : decide ((14 : Int) < (z : Int)) = false := decide_eq_false (by omega)
    have d30 : decide ((30 : Int) < (z : Int)) = false := decide_eq_false (by omega)
    have d62 : decide ((62 : Int) < (z : Int)) = false := decide_eq_false (by omega)
    clear hs t6 t14 t30 t62 c0 h0 h1
    go_enter Try.func53, Try.ntmps53
    go_wp2_with (go_at_call 84; refine (HL.out _).mono ?_; rintro e w' ⟨rfl, rfl⟩)
    go_ret
    exact ⟨rfl, rfl⟩
  · by_cases c1 : a0 < 16384
    · have hs : sizeI a0 = 2 := by unfold sizeI; rw [if_neg c0]; rw [if_pos c1]
      rw [hs]
      have d6 : decide ((6 : Int) < (z : Int)) = true := decide_eq_true (by omega)
      have d14 : decide ((14 : Int) < (z : Int)) = false := decide_eq_false (by omega)
      have d30 : decide ((30 : Int) < (z : Int)) = false := decide_eq_false (by omega)
      have d62 : decide ((62 : Int) < (z : Int)) = false := decide_eq_false (by omega)
      clear hs t6 t14 t30 t62 c0 c1 h0 h1
      go_enter Try.func53, Try.ntmps53
      go_wp2_with (go_at_call 84; refine (HL.out _).mono ?_; rintro e w' ⟨rfl, rfl⟩)
      go_ret
      exact ⟨rfl, rfl⟩
    · by_cases c2 : a0 < 1073741824
      · have hs : sizeI a0 = 4 := by unfold sizeI; rw [if_neg c0]; rw [if_neg c1]; rw [if_pos c2]
        rw [hs]
        have d6 : decide ((6 : Int) < (z : Int)) = true := decide_eq_true (by omega)
        have d14 : decide ((14 : Int) < (z : Int)) = true := decide_eq_true (by omega)
        have d30 : decide ((30 : Int) < (z : Int)) = false := decide_eq_false (by omega)
        have d62 : decide ((62 : Int) < (z : Int)) = false := decide_eq_false (by omega)
        clear hs t6 t14 t30 t62 c0 c1 c2 h0 h1
        go_enter Try.func53, Try.ntmps53
        go_wp2_with (go_at_call 84; refine (HL.out _).mono ?_; rintro e w' ⟨rfl, rfl⟩)
        go_ret
        exact ⟨rfl, rfl⟩
      · by_cases c3 : a0 < 4611686018427387904
        · have hs : sizeI a0 = 8 := by unfold sizeI; rw [if_neg c0]; rw [if_neg c1]; rw [if_neg c2]; rw [if_pos c3]
          rw [hs]
          have d6 : decide ((6 : Int) < (z : Int)) = true := decide_eq_true (by omega)
          have d14 : decide ((14 : Int) < (z : Int)) = true := decide_eq_true (by omega)
          have d30 : decide ((30 : Int) < (z : Int)) = true := decide_eq_true (by omega)
          have d62 : decide ((62 : Int) < (z : Int)) = false := decide_eq_false (by omega)
          clear hs t6 t14 t30 t62 c0 c1 c2 c3 h0 h1
          go_enter Try.func53, Try.ntmps53
          go_wp2_with (go_at_call 84; refine (HL.out _).mono ?_; rintro e w' ⟨rfl, rfl⟩)
          go_ret
          exact ⟨rfl, rfl⟩
        · have hs : sizeI a0 = 0 := by unfold sizeI; rw [if_neg c0]; rw [if_neg c1]; rw [if_neg c2]; rw [if_neg c3]
          rw [hs]
          have d6 : decide ((6 : Int) < (z : Int)) = true := decide_eq_true (by omega)
          have d14 : decide ((14 : Int) < (z : Int)) = true := decide_eq_true (by omega)
          have d30 : decide ((30 : Int) < (z : Int)) = true := decide_eq_true (by omega)
          have d62 : decide ((62 : Int) < (z : Int)) = true := decide_eq_true (by omega)
          clear hs t6 t14 t30 t62 c0 c1 c2 c3 h0 h1
          go_enter Try.func53, Try.ntmps53
          go_wp2_with (go_at_call 84; refine (HL.out _).mono ?_; rintro e w' ⟨rfl, rfl⟩)
          go_ret
          exact ⟨rfl, rfl⟩
theorem pack_Size.calls (a0 : Int) (r : Int) (w : World) (h : pack_Size.f a0 = some r) : Calls Try.prog 53 #[.int .u64 a0] w fun e w' => e = .returned (.int .i64 r) ∧ Drawn0 w w' := by
  unfold pack_Size.f at h
  by_cases hi : inU64 a0
  · rw [if_pos hi] at h
    obtain rfl := Option.some.inj h
    exact (pack_Size.calls0 a0 hi w).mono fun _ _ ⟨he, hw⟩ => ⟨he, hw ▸ Drawn0.refl _⟩
  · rw [if_neg hi] at h
    cases h
end Go.Proofs.Ytfjhlcbpogihmaa.Pr
end
section
namespace Go.Proofs.Ytfjhlcbpogihmaa.Pr
open Go.RowKit Go.Proofs.YtfjhlcbpogihmaaW.PrintWords Go.Proofs.YtfjhlcbpogihmaaW.PrintLast Go.Proofs.YtfjhlcbpogihmaaW.PrintMore
open Go.Proofs.Ytfjhlcbpogihmaa.Hnd
attribute [local go_sem] setCell_drewN_ alloc_drewN_
set_option linter.unusedVariables false
set_option linter.unusedSimpArgs false
/-- The bytes of a number of 1. -/
def num1 (v : Int) : List Int := [Go.bits .or .u8 (v) 0]
/-- The bytes of a number of 2. -/
def num2 (v : Int) : List Int := [Go.bits .or .u8 (v / 256) 64, v % 256]
/-- The bytes of a number of 4. -/
def num4 (v : Int) : List Int := [Go.bits .or .u8 (v / 16777216) 128, v / 65536 % 256, v / 256 % 256, v % 256]
/-- The bytes of a number of 8. -/
def num8 (v : Int) : List Int := [Go.bits .or .u8 (v / 72057594037927936) 192, v / 281474976710656 % 256, v / 1099511627776 % 256, v / 4294967296 % 256, v / 16777216 % 256, v / 65536 % 256, v / 256 % 256, v % 256]
/-- A number's bytes, and whether it has any. -/
def numL (v : Int) : List Int := if v < 64 then num1 v else if v < 16384 then num2 v else if v < 1073741824 then num4 v else if v < 4611686018427387904 then num8 v else []
def numE (v : Int) : Int := if v < 4611686018427387904 then 0 else 4
def pack_Num.f (v : Int) : Option (ByteArray × Int) := if inU64 v then some (strOfNums (numL v), numE v) else none
end Go.Proofs.Ytfjhlcbpogihmaa.Pr
end
section
namespace Go.Proofs.Ytfjhlcbpogihmaa.Pr
open Go.RowKit Go.Proofs.YtfjhlcbpogihmaaW.PrintWords Go.Proofs.YtfjhlcbpogihmaaW.PrintLast Go.Proofs.YtfjhlcbpogihmaaW.PrintMore
open Go.Proofs.Ytfjhlcbpogihmaa.Hnd
attribute [local go_sem] setCell_drewN_ alloc_drewN_
set_option linter.unusedVariables false
set_option linter.unusedSimpArgs false
/-- The two halves behind the first n bytes. -/
def half (s : ByteArray) : Nat → Int × Int
  | 0 => (1, 0)
  | n + 1 => (((half s n).1 + bt s n) % 65521, ((half s n).2 + ((half s n).1 + bt s n) % 65521) % 65521)
def sumI (s : ByteArray) : Int := (half s s.size).2 * 65536 + (half s s.size).1
theorem half_range (s : ByteArray) : ∀ n, 0 ≤ (half s n).1 ∧ (half s n).1 < 65521 ∧ 0 ≤ (half s n).2 ∧ (half s n).2 < 65521
  | 0 => by simp [half]
  | n + 1 => by
    simp only [half]
    omega
theorem wrap64_big {x : Int} (h0 : 0 ≤ x) (h1 : x ≤ 4611686018427387905) : wrap64 x = x := by
  simp [wrap64]
  omega
def seal_Sum.f (a0 : ByteArray) : Option Int := if a0.size ≤ 4611686018427387904 then some (sumI a0) else none
set_option maxHeartbeats 1000000 in
set_option maxRecDepth 100000 in
theorem seal_Sum.calls (a0 : ByteArray) (r : Int) (w : World) (h : seal_Sum.f a0 = some r) : Calls Try.prog 79 #[.string a0] w fun e w' => e = .returned (.int .u32 r) ∧ Below w.heap.size w w' := by
  unfold seal_Sum.f at h
  by_cases hs : a0.size ≤ 4611686018427387904
  rotate_left
  · rw [if_neg hs] at h; cases h
  rw [if_pos hs] at h
  obtain rfl := Option.some.inj h
  clear h
  have HS := Aside0.mk hs
  clear hs
  go_enter Try.func79, Try.ntmps79
  go_wp2_with fail
  go_loopg [8] a0.size (fun g v8 wr => ∃ i : Nat, v8 = .int .i64 (i : Int) ∧ Aside0 (i ≤ a0.size ∧ a0.size - i ≤ g) ∧ Aside0 (wr.heap[w.heap.size]? = some (.cells #[.int .u32 (half a0 i).1, .int .u32 (half a0 i).2] 140 (0, 0))) ∧ Aside0 (Below w.heap.size w wr))
  case atStart =>
    refine ⟨0, rfl, ⟨by omega⟩, ⟨?_⟩, ⟨?_⟩⟩
    · exact blk_new w _
    · exact (Below.refl w.heap.size w).alloc (Nat.le_refl _) _
  case round =>
    obtain ⟨i, rfl, HI, HK, HB⟩ := hrel
    obtain ⟨x, y, hxy⟩ : ∃ x y, half a0 i = (x, y) := ⟨_, _, rfl⟩
    have hr := half_range a0 i
    rw [hxy] at HK hr
    have kb := fun o => blk_cell HK.out o
    have fb := fun o => blk_frozen HK.out o
    have zb := blk_lt HK.out
    have kb0 := kb 0
    have kb1 := kb 1
    by_cases hlt : (i : Int) < a0.size
    · have hltb := decide_eq_true hlt
      have hnat : i < a0.size := by omega
      have hbt : ((a0[i]'hnat).toNat : Int) = bt a0 i := bt_at a0 (i : Int) hnat
      have hbr := bt_range a0 i
      have hm1 : (x + bt a0 i) % 4294967296 % 65521 = (x + bt a0 i) % 65521 := by omega
      have hm2 : (y + (x + bt a0 i) % 65521) % 4294967296 % 65521 = (y + (x + bt a0 i) % 65521) % 65521 := by omega
      go_upto_region 5 with (fail)
      go_region
      have HK1 := Aside0.mk (blk_drew (blk_put (cs' := #[.int .u32 ((x + bt a0 i) % 65521), .int .u32 y]) HK.out 0 (.int .u32 ((x + bt a0 i) % 65521)) rfl))
      have HB1 := Aside0.mk ((HB.out.setCell (p := ⟨w.heap.size, 0, none⟩) (Nat.le_refl _) (.int .u32 ((x + bt a0 i) % 65521))).drew)
      clear kb fb zb kb0 kb1 HK HB
      obtain ⟨W1, hW⟩ : ∃ W1, (wr.setCell ⟨w.heap.size, 0, none⟩ (.int .u32 ((x + bt a0 i) % 65521))).drew = W1 := ⟨_, rfl⟩
      rw [hW] at HK1 HB1 ⊢
      clear hW
      obtain ⟨x1, hx1⟩ : ∃ x1, (x + bt a0 i) % 65521 = x1 := ⟨_, rfl⟩
      have hrx : 0 ≤ x1 ∧ x1 < 65521 := by omega
      have HX := Aside0.mk hx1
      rw [hx1] at HK1 hm2 ⊢
      clear hx1 hm1
      have kb := fun o => blk_cell HK1.out o
      have fb := fun o => blk_frozen HK1.out o
      have zb := blk_lt HK1.out
      have kb0 := kb 0
      have kb1 := kb 1
      go_wp2
      go_roundg (gk - 1)
      case measure => have := HI.out; omega
      case rel =>
        have hm3 : (y + x1) % 65521 = (half a0 (i + 1)).2 := by simp only [half, hxy]; rw [HX.out]
        have hm4 : x1 = (half a0 (i + 1)).1 := by simp only [half, hxy]; exact HX.out.symm
        refine ⟨i + 1, ?_, ⟨by have := HI.out; omega⟩, ⟨?_⟩, ⟨?_⟩⟩
        · rw [wrap64_big (by omega) (by have := HS.out; omega)]
          rfl
        · rw [← hm3, ← hm4]
          exact blk_put (cs' := #[.int .u32 x1, .int .u32 ((y + x1) % 65521)]) HK1.out 1 _ rfl
        · exact HB1.out.setCell (p := ⟨w.heap.size, 1, none⟩) (Nat.le_refl _) _
    · have hltb := decide_eq_false hlt
      have hie : i = a0.size := by have := HI.out; omega
      have hor : Go.bits .or .u32 (y * 65536) x = sumI a0 := by
        rw [bits_join .u32 32 (by decide) (fun n h0 h1 => by rw [show IntKind.u32.wrap n = n % 4294967296 by simp [IntKind.wrap, IntKind.bits, IntKind.signed]]; omega) 16 _ _ (by omega) (by omega) (by omega) (by omega) (by omega) (by omega)]
        unfold sumI
        rw [← hie, hxy]
      go_wp2
      go_ret
      exact ⟨rfl, HB.out⟩
end Go.Proofs.Ytfjhlcbpogihmaa.Pr
end
section
namespace Go.Proofs.Ytfjhlcbpogihmaa.Pr
open Go.RowKit Go.Proofs.YtfjhlcbpogihmaaW.PrintWords Go.Proofs.YtfjhlcbpogihmaaW.PrintLast Go.Proofs.YtfjhlcbpogihmaaW.PrintMore
attribute [local go_sem] max2_int min2_int max_two min_two max_three min_three max_four min_four
set_option linter.unusedVariables false
set_option linter.unusedSimpArgs false
/-! ### seal_tail: function 78 -/
def seal_tail.f (a0 : Int) : Option (ByteArray) := some (strOfNums (([(a0 / 16777216) % 256, (a0 / 65536) % 256, (a0 / 256) % 256, (a0) % 256] : List Int)))
set_option maxHeartbeats 8000000 in
set_option maxRecDepth 100000 in
theorem seal_tail.calls (a0 : Int) (r : ByteArray) (w : World) (h : seal_tail.f a0 = some r) :
    Calls Try.prog 78 #[.int .u32 a0] w fun e w' => e = .returned (.string r) ∧ Below w.heap.size w w' := by
  have HB := Aside0.mk (Below.refl w.heap.size w)
  have H : (some (strOfNums (([(a0 / 16777216) % 256, (a0 / 65536) % 256, (a0 / 256) % 256, (a0) % 256] : List Int)))) = some r := h
  clear h
  obtain ⟨y154, hy154⟩ : ∃ y_ : List Int, y_ = (([(a0 / 16777216) % 256, (a0 / 65536) % 256, (a0 / 256) % 256, (a0) % 256] : List Int)) := ⟨_, rfl⟩
  replace H : (some (strOfNums y154)) = some r := by first | (rw [hy154]; with_reducible exact H) | (have H2_ := (Option.bind_some _ _).symm.trans H; rw [hy154]; with_reducible exact H2_) | (have H2_ := (Option.bind_some _ _).symm.trans H; with_reducible exact H2_) | with_reducible exact H | (rw [hy154]; exact H) | exact H
  have Ny154 := Aside0.mk hy154
  clear hy154
  obtain rfl := Option.some.inj H
  go_enter Try.func78, Try.ntmps78
  go_wp2_with (first | ((with_reducible refine gate_dst (N := 14) rfl ?_); refine Kd.R_lit (Kd.int .u8) _ 5 ?hg (N := 14) ?hd (xs := ([(a0 / 16777216) % 256, (a0 / 65536) % 256, (a0 / 256) % 256, (a0) % 256] : List Int)) (inner := [.int .u8 ((a0 / 16777216) % 256), .int .u8 ((a0 / 65536) % 256), .int .u8 ((a0 / 256) % 256), .int .u8 ((a0) % 256)]) (ok := fun _ => True) (okp := fun _ => True) ?hr ?hp (fun _ hk => hk) trivial (Below.refl _ _) (Nat.le_refl _) (by simp) ?_; (case hd => rfl); (case hg => rfl); (case hr => first | (go_simp; done) | (go_simp; rfl)); (case hp => exact (Reps.one (show Kd.M (Kd.int .u8) _ _ _ ((a0 / 16777216) % 256) [.int .u8 ((a0 / 16777216) % 256)] from rfl) (Reps.one (show Kd.M (Kd.int .u8) _ _ _ ((a0 / 65536) % 256) [.int .u8 ((a0 / 65536) % 256)] from rfl) (Reps.one (show Kd.M (Kd.int .u8) _ _ _ ((a0 / 256) % 256) [.int .u8 ((a0 / 256) % 256)] from rfl) (Reps.one (show Kd.M (Kd.int .u8) _ _ _ ((a0) % 256) [.int .u8 ((a0) % 256)] from rfl) (Reps.none _ _)))))); intro v155 w2 ho3 hb hg_ hnew_; clear hg_ hnew_; (first | rw [← Ny154.out] at ho3 | (simp only [Int.reduceToNat] at ho3; rw [← Ny154.out] at ho3)); have n0_ := Aside0.mk (Kd.R_lower ho3 (below_size (by repeat (first | (with_reducible first | exact HB.out | apply below_alloc | apply pw_below_drewN | apply below_drew1) | exact HB.out)))); have n1_ := Aside0.mk (below_step (by repeat (first | (with_reducible first | exact HB.out | apply below_alloc | apply pw_below_drewN | apply below_drew1) | exact HB.out | exact Below.refl _ _)) hb); clear HB; have HO156 := n0_; have HB := n1_; clear n0_ n1_; clear hb ho3; have hcv4 := own_string (P := Try.prog) Try.underlying81 Try.underlying5 Try.underlying9 (Kd.own_of_R HO156.out)))
  go_ret
  exact ⟨by first | rfl | (simp [errW_none, errW_some] <;> rfl) | (simp [*, errW_none, errW_some] <;> rfl), by repeat (first | (with_reducible first | exact HB.out | apply below_alloc | apply pw_below_drewN | apply below_drew1) | exact HB.out)⟩
/-! ### seal_Put: function 47 -/
def seal_Put.f (a0 : ByteArray) : Option (ByteArray × Int) := if (a0.size : Int) > 65536 then (some ((⟨#[]⟩ : ByteArray), 4)) else ((pack_Num.f (a0.size : Int)).bind fun bt157 => (if bt157.1.size + a0.size ≤ 9223372036854775807 then ((seal_Sum.f (bt157.1 ++ a0)).bind fun t159 => ((seal_tail.f t159).bind fun t160 => (if (bt157.1 ++ a0).size + t160.size ≤ 9223372036854775807 then (some ((bt157.1 ++ a0) ++ t160, bt157.2)) else (none)))) else (none)))
end Go.Proofs.Ytfjhlcbpogihmaa.Pr
end
section
namespace Go.Proofs.Ytfjhlcbpogihmaa.Pr
open Go.RowKit Go.Proofs.YtfjhlcbpogihmaaW.PrintWords Go.Proofs.YtfjhlcbpogihmaaW.PrintLast Go.Proofs.YtfjhlcbpogihmaaW.PrintMore
attribute [local go_sem] max2_int min2_int max_two min_two max_three min_three max_four min_four
set_option linter.unusedVariables false
set_option linter.unusedSimpArgs false
/-! ### pack_TakeNum: function 92 -/
def pack_TakeNum.l0 : Nat → ByteArray → Int → Int → Int → Option (Int × ByteArray × Int)
  | 0, _, _, _, _ => none
  | k + 1, x0, x5, x6, x7 => if x7 < x5 then (if 0 ≤ x7 then (if x7 < (x0.size : Int) then (pack_TakeNum.l0 k x0 x5 (Go.bits .or .u64 (IntKind.u64.wrap (x6 * 256)) (IntKind.u64.wrap (bt x0 x7))) (wrap64 (x7 + 1))) else (none)) else (none)) else ((pack_Size.f x6).bind fun t191 => (if t191 = x5 then (if 0 ≤ x5 then (if x5 ≤ (x0.size : Int) then (some (x6, x0.extract (x5 : Int).toNat x0.size, 0)) else (none)) else (none)) else (some (0, (⟨#[]⟩ : ByteArray), 3))))
def pack_TakeNum.f (k : Nat) (a0 : ByteArray) : Option (Int × ByteArray × Int) := if a0.toList = ([] : List UInt8) then (some (0, (⟨#[]⟩ : ByteArray), 2)) else (if 0 < (a0.size : Int) then (if 0 ≤ ((bt a0 0) / 64) then (if (a0.size : Int) < (shl .i64 1 ((bt a0 0) / 64)) then (some (0, (⟨#[]⟩ : ByteArray), 2)) else (pack_TakeNum.l0 k a0 (shl .i64 1 ((bt a0 0) / 64)) (IntKind.u64.wrap (Go.bits .and .u8 (bt a0 0) 63)) 1)) else (none)) else (none))
theorem pack_TakeNum.mono_l : ∀ k, (∀ y0 y1 y2 y3, LeO (pack_TakeNum.l0 k y0 y1 y2 y3) (pack_TakeNum.l0 (k + 1) y0 y1 y2 y3))
  | 0 => fun _ _ _ _ r h => by simp [pack_TakeNum.l0] at h
  | k + 1 => by
    have ih0 := pack_TakeNum.mono_l k
    · intro y0 y1 y2 y3
      unfold pack_TakeNum.l0
      repeat' first
      | (with_reducible exact ih0 _ _ _ _)
      | (with_reducible exact LeO.refl _)
      | (with_reducible exact LeO.none _)
      | (with_reducible refine LeO.ite ?_ ?_)
      | (with_reducible refine LeO.bind ?_ (fun _ => ?_))
      | exact ih0 _ _ _ _
      | exact LeO.none _
      | refine LeO.ite ?_ ?_
      | refine LeO.bind ?_ (fun _ => ?_)
theorem pack_TakeNum.mono : ∀ a0 k, LeO (pack_TakeNum.f k a0) (pack_TakeNum.f (k + 1) a0) := by
  intro a0 k
  have ih0 := pack_TakeNum.mono_l k
  unfold pack_TakeNum.f
  repeat' first
      | (with_reducible exact ih0 _ _ _ _)
      | (with_reducible exact LeO.refl _)
      | (with_reducible exact LeO.none _)
      | (with_reducible refine LeO.ite ?_ ?_)
      | (with_reducible refine LeO.bind ?_ (fun _ => ?_))
      | exact ih0 _ _ _ _
      | exact LeO.none _
      | refine LeO.ite ?_ ?_
      | refine LeO.bind ?_ (fun _ => ?_)
set_option maxHeartbeats 8000000 in
set_option maxRecDepth 100000 in
theorem pack_TakeNum.calls (k : Nat) (a0 : ByteArray) (r1 : Int) (r2 : ByteArray) (r3 : Int) (w : World) (h : pack_TakeNum.f k a0 = some (r1, r2, r3)) :
    Calls Try.prog 92 #[.string a0] w fun e w' => e = .returned (.tuple #[.int .u64 r1, .string r2, .int .i64 r3]) ∧ Drawn0 w w' := by
  have H : (if a0.toList = ([] : List UInt8) then (some (0, (⟨#[]⟩ : ByteArray), 2)) else (if 0 < (a0.size : Int) then (if 0 ≤ ((bt a0 0) / 64) then (if (a0.size : Int) < (shl .i64 1 ((bt a0 0) / 64)) then (some (0, (⟨#[]⟩ : ByteArray), 2)) else (pack_TakeNum.l0 k a0 (shl .i64 1 ((bt a0 0) / 64)) (IntKind.u64.wrap (Go.bits .and .u8 (bt a0 0) 63)) 1)) else (none)) else (none))) = some (r1, r2, r3) := h
  clear h
  by_cases c2 : a0.toList = ([] : List UInt8)
  · rw [if_pos c2] at H
    have c2b0 : (a0.toList == ([] : List UInt8)) = true := beq_iff_eq.mpr c2
    have c2b1 : (a0.toList != ([] : List UInt8)) = false := bne_eq_false_iff_eq.mpr c2
    clear c2
    simp only [Option.some.injEq, Prod.mk.injEq] at H
    obtain ⟨rfl, rfl, rfl⟩ := H
    go_enter Try.func92, Try.ntmps92
    go_wp2
    repeat (go_quiet (fail); try go_wp2)
    go_ret3
    exact ⟨by first | rfl | (simp; done) | (simp [*]; done), by repeat (first | exact Drawn0.refl _ | apply Drawn0.step)⟩
  · rw [if_neg c2] at H
    have c2b0 : (a0.toList == ([] : List UInt8)) = false := beq_eq_false_iff_ne.mpr c2
    have c2b1 : (a0.toList != ([] : List UInt8)) = true := bne_iff_ne.mpr c2
    by_cases c3 : 0 < (a0.size : Int)
    · rw [if_pos c3] at H
      have c3b0 : decide (0 < (a0.size : Int)) = true := decide_eq_true c3
      have c3b1 : decide (0 < a0.size) = true := decide_eq_true (by omega)
      clear c3
      obtain ⟨ji5, hji5⟩ : ∃ j_ : Int, ((bt a0 0) / 64) = j_ := ⟨_, rfl⟩
      replace H : (if 0 ≤ (ji5) then (if (a0.size : Int) < (shl .i64 1 (ji5)) then (some (0, (⟨#[]⟩ : ByteArray), 2)) else (pack_TakeNum.l0 k a0 (shl .i64 1 (ji5)) (IntKind.u64.wrap (Go.bits .and .u8 (bt a0 0) 63)) 1)) else (none)) = some (r1, r2, r3) := by first | (rw [hji5] at H; exact H) | (simp only [hji5] at H ⊢; exact H)
      by_cases c6 : 0 ≤ (ji5)
      · rw [if_pos c6] at H
        have c6b0 := eq_true c6
        have c6b1 : decide (0 ≤ (ji5)) = true := decide_eq_true c6
        clear c6
        obtain ⟨ji7, hji7⟩ : ∃ j_ : Int, (shl .i64 1 (ji5)) = j_ := ⟨_, rfl⟩
        replace H : (if (a0.size : Int) < (ji7) then (some (0, (⟨#[]⟩ : ByteArray), 2)) else (pack_TakeNum.l0 k a0 ji7 (IntKind.u64.wrap (Go.bits .and .u8 (bt a0 0) 63)) 1)) = some (r1, r2, r3) := by first | (rw [hji7] at H; exact H) | (simp only [hji7] at H ⊢; exact H)
        have hji7_ : (IntKind.i64.wrap (1 * 2 ^ min (ji5).toNat 64)) = ji7 := hji7
        have hji7z : (ji5) ≤ 64 → (IntKind.i64.wrap (1 * 2 ^ (ji5).toNat)) = ji7 := shl_small hji7
        have hji7u : (IntKind.i64.wrap (2 ^ min (ji5).toNat 64)) = ji7 := by have h_ := hji7_; rw [Int.one_mul] at h_; exact h_
        have hji7v : (ji5) ≤ 64 → (IntKind.i64.wrap (2 ^ (ji5).toNat)) = ji7 := fun hle_ => by have h_ := hji7z hle_; rw [Int.one_mul] at h_; exact h_
        have hji7y : (wrap64 (1 * 2 ^ min (ji5).toNat 64)) = ji7 := (i64_w _).symm.trans hji7_
        have hji7x : (ji5) ≤ 64 → (wrap64 (1 * 2 ^ (ji5).toNat)) = ji7 := fun h_ => (i64_w _).symm.trans (hji7z h_)
        by_cases c8 : (a0.size : Int) < (ji7)
        · rw [if_pos c8] at H
          have c8b0 : decide ((a0.size : Int) < (ji7)) = true := decide_eq_true c8
          clear c8
          simp only [Option.some.injEq, Prod.mk.injEq] at H
          obtain ⟨rfl, rfl, rfl⟩ := H
          have p4 : 0 ≤ (0 : Int) := (by omega)
          have q4 : 0 < a0.size := (by have : (0 : Int) < (a0.size : Int) := of_decide_eq_true (by first | (with_reducible assumption) | assumption); omega)
          have hx4 : ∀ h : 0 < a0.size, ((a0[0]'h).toNat : Int) = bt a0 0 := bt_at a0 0
          clear p4
          have qi4 : (0 < (a0.size : Int)) = True := eq_true (of_decide_eq_true (by first | (with_reducible assumption) | assumption))
          replace q4 := eq_true q4
          go_enter Try.func92, Try.ntmps92
          go_wp2
          repeat (go_quiet (fail); try go_wp2)
          go_ret3
          exact ⟨by first | rfl | (simp; done) | (simp only [← hji5, ← hji7] <;> (first | rfl | simp)) | (simp [*]; done), by repeat (first | exact Drawn0.refl _ | apply Drawn0.step)⟩
        · rw [if_neg c8] at H
          have c8b0 : decide ((a0.size : Int) < (ji7)) = false := decide_eq_false c8
          clear c8
          have H' := Aside0.mk H
          clear H
          have p4 : 0 ≤ (0 : Int) := (by omega)
          have q4 : 0 < a0.size := (by have : (0 : Int) < (a0.size : Int) := of_decide_eq_true (by first | (with_reducible assumption) | assumption); omega)
          have hx4 : ∀ h : 0 < a0.size, ((a0[0]'h).toNat : Int) = bt a0 0 := bt_at a0 0
          clear p4
          have qi4 : (0 < (a0.size : Int)) = True := eq_true (of_decide_eq_true (by first | (with_reducible assumption) | assumption))
          replace q4 := eq_true q4
          have p9 : 0 ≤ (0 : Int) := (by omega)
          have q9 : 0 < a0.size := (by have : (0 : Int) < (a0.size : Int) := of_decide_eq_true (by first | (with_reducible assumption) | assumption); omega)
          have hx9 : ∀ h : 0 < a0.size, ((a0[0]'h).toNat : Int) = bt a0 0 := bt_at a0 0
          clear p9
          have qi9 : (0 < (a0.size : Int)) = True := eq_true (of_decide_eq_true (by first | (with_reducible assumption) | assumption))
          replace q9 := eq_true q9
          go_enter Try.func92, Try.ntmps92
          go_wp2
          repeat (go_quiet (fail); try go_wp2)
          go_loopg [6, 7] k (fun kq v6 v7 w' => ∃ (x6_1 : Int) (x7_1 : Int), v6 = .int .u64 x6_1 ∧ v7 = .int .i64 x7_1 ∧ Aside0 (pack_TakeNum.l0 kq a0 ji7 x6_1 x7_1 = some (r1, r2, r3)) ∧ Aside0 (kq ≤ k) ∧ Drawn0 w w')
          case atStart => exact ⟨(IntKind.u64.wrap (Go.bits .and .u8 (bt a0 0) 63)), (1), (by first | rfl | (simp; done) | (simp [*]; done)), (by first | rfl | (simp; done) | (simp [*]; done)), H', ⟨Nat.le_refl _⟩, by repeat (first | exact Drawn0.refl _ | apply Drawn0.step)⟩
          case round =>
            clear H'
            try clear c2
            try clear c2b0
            try clear c2b1
            try clear p2
            try clear c3
            try clear c3b0
            try clear c3b1
            try clear p4
            try clear q4
            try clear hx4
            try clear qi4
            try clear c6
            try clear c6b0
            try clear c6b1
            try clear p6
            try clear c8
            try clear c8b0
            try clear c9
            try clear p9
            try clear q9
            try clear hx9
            try clear qi9
            try clear p4
            try clear p9
            try clear q4
            try clear q9
            obtain ⟨x6_1, x7_1, rfl, rfl, HA, HK1, ⟨m1, rfl⟩⟩ := hrel
            cases gk with
            | zero => exact absurd HA.out (by simp [pack_TakeNum.l0])
            | succ k1 =>
              have H := HA.out
              clear HA
              simp only [pack_TakeNum.l0] at H
              by_cases c10 : x7_1 < ji7
              · rw [if_pos c10] at H
                have c10b0 : decide (x7_1 < ji7) = true := decide_eq_true c10
                clear c10
                by_cases c11 : 0 ≤ x7_1
                · rw [if_pos c11] at H
                  have c11b0 : decide (0 ≤ x7_1) = true := decide_eq_true c11
                  clear c11
                  by_cases c12 : x7_1 < (a0.size : Int)
                  · rw [if_pos c12] at H
                    have c12b0 : decide (x7_1 < (a0.size : Int)) = true := decide_eq_true c12
                    clear c12
                    have H' := Aside0.mk H
                    clear H
                    have p13 : 0 ≤ (x7_1 : Int) := of_decide_eq_true (by first | (with_reducible assumption) | assumption)
                    have q13 : x7_1 < (a0.size : Int) := of_decide_eq_true (by first | (with_reducible assumption) | assumption)
                    have hx13 := bt_at a0 x7_1
                    replace p13 := eq_true p13
                    replace q13 := eq_true q13
                    go_wp2
                    repeat (go_quiet (fail); try go_wp2)
                    go_roundg k1
                    case measure => have := HK1.out; omega
                    case rel => exact ⟨(Go.bits .or .u64 (IntKind.u64.wrap (x6_1 * 256)) (IntKind.u64.wrap (bt a0 x7_1))), (wrap64 (x7_1 + 1)), (by first | rfl | (simp; done) | (simp [*]; done)), (by first | rfl | (simp; done) | (simp [*]; done)), H', ⟨by have := HK1.out; omega⟩, by repeat (first | exact Drawn0.refl _ | apply Drawn0.step)⟩
                  · rw [if_neg c12] at H
                    exact absurd H (by simp)
                · rw [if_neg c11] at H
                  exact absurd H (by simp)
              · rw [if_neg c10] at H
                have c10b0 : decide (x7_1 < ji7) = false := decide_eq_false c10
                clear c10
                replace H := Option.bind_eq_some_iff.mp H
                obtain ⟨t191, A140, H⟩ := H
                replace H : (if t191 = ji7 then (if 0 ≤ ji7 then (if ji7 ≤ (a0.size : Int) then (some (x6_1, a0.extract (ji7 : Int).toNat a0.size, 0)) else (none)) else (none)) else (some (0, (⟨#[]⟩ : ByteArray), 3))) = some (r1, r2, r3) := H
                have A14 := Aside0.mk A140
                clear A140
                by_cases c15 : t191 = ji7
                · rw [if_pos c15] at H
                  have c15b0 : (t191 == ji7) = true := beq_iff_eq.mpr c15
                  have c15b1 : (t191 != ji7) = false := bne_eq_false_iff_eq.mpr c15
                  clear c15
                  by_cases c16 : 0 ≤ ji7
                  · rw [if_pos c16] at H
                    have c16b0 := eq_true c16
                    have c16b1 : decide (0 ≤ ji7) = true := decide_eq_true c16
                    clear c16
                    by_cases c17 : ji7 ≤ (a0.size : Int)
                    · rw [if_pos c17] at H
                      have c17b0 := eq_true c17
                      have c17b1 : decide (ji7 ≤ (a0.size : Int)) = true := decide_eq_true c17
                      clear c17
                      simp only [Option.some.injEq, Prod.mk.injEq] at H
                      obtain ⟨rfl, rfl, rfl⟩ := H
                      go_wp2_with (first | (go_at_call 53; (with_reducible refine (pack_Size.calls x6_1 t191 _ A14.out).mono ?_); rintro e w' ⟨rfl, ⟨nd, rfl⟩⟩; (try first | exact ⟨rfl, _, World.drewN_drewN _ _ _⟩ | exact ⟨rfl, _, Eq.trans (World.drewN_drewN _ _ _) (congrArg (World.drewN _) (Nat.add_assoc _ _ _))⟩)))
                      repeat (go_quiet (first | (go_at_call 53; (with_reducible refine (pack_Size.calls x6_1 t191 _ A14.out).mono ?_); rintro e w' ⟨rfl, ⟨nd, rfl⟩⟩; (try first | exact ⟨rfl, _, World.drewN_drewN _ _ _⟩ | exact ⟨rfl, _, Eq.trans (World.drewN_drewN _ _ _) (congrArg (World.drewN _) (Nat.add_assoc _ _ _))⟩))); try go_wp2_with (first | (go_at_call 53; (with_reducible refine (pack_Size.calls x6_1 t191 _ A14.out).mono ?_); rintro e w' ⟨rfl, ⟨nd, rfl⟩⟩; (try first | exact ⟨rfl, _, World.drewN_drewN _ _ _⟩ | exact ⟨rfl, _, Eq.trans (World.drewN_drewN _ _ _) (congrArg (World.drewN _) (Nat.add_assoc _ _ _))⟩))))
                      go_ret3
                      exact ⟨by first | rfl | (simp; done) | (simp only [← hji5, ← hji7] <;> (first | rfl | simp)) | (simp [*]; done), by repeat (first | exact Drawn0.refl _ | apply Drawn0.step)⟩
                    · rw [if_neg c17] at H
                      exact absurd H (by simp)
                  · rw [if_neg c16] at H
                    exact absurd H (by simp)
                · rw [if_neg c15] at H
                  have c15b0 : (t191 == ji7) = false := beq_eq_false_iff_ne.mpr c15
                  have c15b1 : (t191 != ji7) = true := bne_iff_ne.mpr c15
                  simp only [Option.some.injEq, Prod.mk.injEq] at H
                  obtain ⟨rfl, rfl, rfl⟩ := H
                  go_wp2_with (first | (go_at_call 53; (with_reducible refine (pack_Size.calls x6_1 t191 _ A14.out).mono ?_); rintro e w' ⟨rfl, ⟨nd, rfl⟩⟩; (try first | exact ⟨rfl, _, World.drewN_drewN _ _ _⟩ | exact ⟨rfl, _, Eq.trans (World.drewN_drewN _ _ _) (congrArg (World.drewN _) (Nat.add_assoc _ _ _))⟩)))
                  repeat (go_quiet (first | (go_at_call 53; (with_reducible refine (pack_Size.calls x6_1 t191 _ A14.out).mono ?_); rintro e w' ⟨rfl, ⟨nd, rfl⟩⟩; (try first | exact ⟨rfl, _, World.drewN_drewN _ _ _⟩ | exact ⟨rfl, _, Eq.trans (World.drewN_drewN _ _ _) (congrArg (World.drewN _) (Nat.add_assoc _ _ _))⟩))); try go_wp2_with (first | (go_at_call 53; (with_reducible refine (pack_Size.calls x6_1 t191 _ A14.out).mono ?_); rintro e w' ⟨rfl, ⟨nd, rfl⟩⟩; (try first | exact ⟨rfl, _, World.drewN_drewN _ _ _⟩ | exact ⟨rfl, _, Eq.trans (World.drewN_drewN _ _ _) (congrArg (World.drewN _) (Nat.add_assoc _ _ _))⟩))))
                  go_ret3
                  exact ⟨by first | rfl | (simp; done) | (simp only [← hji5, ← hji7] <;> (first | rfl | simp)) | (simp [*]; done), by repeat (first | exact Drawn0.refl _ | apply Drawn0.step)⟩
      · rw [if_neg c6] at H
        exact absurd H (by simp)
    · rw [if_neg c3] at H
      exact absurd H (by simp)
end Go.Proofs.Ytfjhlcbpogihmaa.Pr
end
section
namespace Go.Proofs.Ytfjhlcbpogihmaa.Pr
open Go.RowKit Go.Proofs.YtfjhlcbpogihmaaW.PrintWords Go.Proofs.YtfjhlcbpogihmaaW.PrintLast Go.Proofs.YtfjhlcbpogihmaaW.PrintMore
open Go.Proofs.Ytfjhlcbpogihmaa.Hnd
attribute [local go_sem] setCell_drewN_ alloc_drewN_ max2_int min2_int max_two min_two max_three min_three max_four min_four
attribute [local go_sem high] eqA39
set_option linter.unusedVariables false
set_option linter.unusedSimpArgs false
/-- Three numbers and a text within their bounds? -/
def nmIn (i t v : Int) (d : ByteArray) : Prop := i ≤ 4611686018427387903 ∧ t ≤ 4611686018427387903 ∧ v ≤ 4611686018427387903 ∧ (d.size : Int) ≤ 4096
instance (i t v : Int) (d : ByteArray) : Decidable (nmIn i t v d) := by unfold nmIn; infer_instance
def nmP1 (i t v : Int) (d : ByteArray) : Prop := 0 = i ∧ d.toList = []
def nmP2 (i t v : Int) (d : ByteArray) : Prop := 0 = v
def nmP3 (i t v : Int) (d : ByteArray) : Prop := 0 = t ∧ 0 = v ∧ d.toList = []
instance (i t v : Int) (d : ByteArray) : Decidable (nmP1 i t v d) := by unfold nmP1; infer_instance
instance (i t v : Int) (d : ByteArray) : Decidable (nmP2 i t v d) := by unfold nmP2; infer_instance
instance (i t v : Int) (d : ByteArray) : Decidable (nmP3 i t v d) := by unfold nmP3; infer_instance
def nm1 (i t v : Int) (d : ByteArray) : Bool := decide (nmP1 i t v d ∧ nmIn i t v d)
def nm2 (i t v : Int) (d : ByteArray) : Bool := decide (nmP2 i t v d ∧ nmIn i t v d)
def nm3 (i t v : Int) (d : ByteArray) : Bool := decide (nmP3 i t v d ∧ nmIn i t v d)
theorem nm_at {P : Prop} [Decidable P] {i t v : Int} {d : ByteArray} (hp : P) (h1 : i ≤ 4611686018427387903) (h2 : t ≤ 4611686018427387903) (h3 : v ≤ 4611686018427387903) : decide ((d.size : Int) ≤ 4096) = decide (P ∧ nmIn i t v d) :=
  decide_eq_decide.2 ⟨fun h => ⟨hp, h1, h2, h3, h⟩, fun h => h.2.2.2.2⟩
set_option maxHeartbeats 2000000 in
set_option maxRecDepth 100000 in
theorem nm_1 (i t v : Int) (d : ByteArray) (w : World) :
    Calls Try.prog 45 #[.agg #[.int .i64 1, .int .u64 i, .int .u64 t, .int .u64 v, .string d]] w fun e w' => e = .returned (.bool (nm1 i t v d)) ∧ Below w.heap.size w w' := by
  have hu39 := Try.underlying39
  go_enter Try.func45, Try.ntmps45
  go_wp2_with fail
  all_goals go_ret
  all_goals refine ⟨?_, below_alloc (below_alloc (Below.refl _ _) _) _⟩
  all_goals refine congrArg (fun b => Ending.returned (Value.bool b)) (?_ : (_ : Bool) = _)
  all_goals first
    | exact nm_at (by unfold nmP1; first | assumption | omega | simp_all) (by omega) (by omega) (by omega)
    | exact (decide_eq_false (fun hh => by unfold nmP1 nmIn at hh; first | omega | (simp_all; done) | (obtain ⟨⟨hA, hB, hC⟩, hD⟩ := hh; first | omega | (rename_i hX; exact hX hA hB hC) | (rename_i hX; exact hX hC) | (rename_i hX; exact hX ⟨hA, hB, hC⟩)))).symm
set_option maxHeartbeats 2000000 in
set_option maxRecDepth 100000 in
theorem nm_2 (i t v : Int) (d : ByteArray) (w : World) :
    Calls Try.prog 45 #[.agg #[.int .i64 2, .int .u64 i, .int .u64 t, .int .u64 v, .string d]] w fun e w' => e = .returned (.bool (nm2 i t v d)) ∧ Below w.heap.size w w' := by
  have hu39 := Try.underlying39
  go_enter Try.func45, Try.ntmps45
  go_wp2_with fail
  all_goals go_ret
  all_goals refine ⟨?_, below_alloc (below_alloc (Below.refl _ _) _) _⟩
  all_goals refine congrArg (fun b => Ending.returned (Value.bool b)) (?_ : (_ : Bool) = _)
  all_goals first
    | exact nm_at (by unfold nmP2; first | assumption | omega | simp_all) (by omega) (by omega) (by omega)
    | exact (decide_eq_false (fun hh => by unfold nmP2 nmIn at hh; first | omega | (simp_all; done) | (obtain ⟨⟨hA, hB, hC⟩, hD⟩ := hh; first | omega | (rename_i hX; exact hX hA hB hC) | (rename_i hX; exact hX hC) | (rename_i hX; exact hX ⟨hA, hB, hC⟩)))).symm
set_option maxHeartbeats 2000000 in
set_option maxRecDepth 100000 in
theorem nm_3 (i t v : Int) (d : ByteArray) (w : World) :
    Calls Try.prog 45 #[.agg #[.int .i64 3, .int .u64 i, .int .u64 t, .int .u64 v, .string d]] w fun e w' => e = .returned (.bool (nm3 i t v d)) ∧ Below w.heap.size w w' := by
  have hu39 := Try.underlying39
  go_enter Try.func45, Try.ntmps45
  go_wp2_with fail
  all_goals go_ret
  all_goals refine ⟨?_, below_alloc (below_alloc (Below.refl _ _) _) _⟩
  all_goals refine congrArg (fun b => Ending.returned (Value.bool b)) (?_ : (_ : Bool) = _)
  all_goals first
    | exact nm_at (by unfold nmP3; first | assumption | omega | simp_all) (by omega) (by omega) (by omega)
    | exact (decide_eq_false (fun hh => by unfold nmP3 nmIn at hh; first | omega | (simp_all; done) | (obtain ⟨⟨hA, hB, hC⟩, hD⟩ := hh; first | omega | (rename_i hX; exact hX hA hB hC) | (rename_i hX; exact hX hC) | (rename_i hX; exact hX ⟨hA, hB, hC⟩)))).symm
set_option maxHeartbeats 2000000 in
set_option maxRecDepth 100000 in
theorem nm_4 (i t v : Int) (d : ByteArray) (w : World) :
    Calls Try.prog 45 #[.agg #[.int .i64 4, .int .u64 i, .int .u64 t, .int .u64 v, .string d]] w fun e w' => e = .returned (.bool (nm2 i t v d)) ∧ Below w.heap.size w w' := by
  have hu39 := Try.underlying39
  go_enter Try.func45, Try.ntmps45
  go_wp2_with fail
  all_goals go_ret
  all_goals refine ⟨?_, below_alloc (below_alloc (Below.refl _ _) _) _⟩
  all_goals refine congrArg (fun b => Ending.returned (Value.bool b)) (?_ : (_ : Bool) = _)
  all_goals first
    | exact nm_at (by unfold nmP2; first | assumption | omega | simp_all) (by omega) (by omega) (by omega)
    | exact (decide_eq_false (fun hh => by unfold nmP2 nmIn at hh; first | omega | (simp_all; done) | (obtain ⟨⟨hA, hB, hC⟩, hD⟩ := hh; first | omega | (rename_i hX; exact hX hA hB hC) | (rename_i hX; exact hX hC) | (rename_i hX; exact hX ⟨hA, hB, hC⟩)))).symm
set_option maxHeartbeats 2000000 in
set_option maxRecDepth 100000 in
theorem nm_0 (kd : Int) (h1 : (kd == 1) = false) (h2 : (kd == 2) = false) (h3 : (kd == 3) = false) (h4 : (kd == 4) = false) (i t v : Int) (d : ByteArray) (w : World) :
    Calls Try.prog 45 #[.agg #[.int .i64 kd, .int .u64 i, .int .u64 t, .int .u64 v, .string d]] w fun e w' => e = .returned (.bool false) ∧ Below w.heap.size w w' := by
  have hu39 := Try.underlying39
  go_enter Try.func45, Try.ntmps45
  go_wp2_with fail
  all_goals go_ret
  all_goals exact ⟨rfl, below_alloc (below_alloc (Below.refl _ _) _) _⟩
/-- May a note be? -/
def nmayB (kd i t v : Int) (d : ByteArray) : Bool := if kd = 1 then nm1 i t v d else if kd = 2 then nm2 i t v d else if kd = 3 then nm3 i t v d else if kd = 4 then nm2 i t v d else false
def note_may.f (k : Nat) (a0_0 : Int) (a0_1 : Int) (a0_2 : Int) (a0_3 : Int) (a0_4 : ByteArray) : Option Bool := some (nmayB a0_0 a0_1 a0_2 a0_3 a0_4)
theorem note_may.calls (k : Nat) (a0_0 : Int) (a0_1 : Int) (a0_2 : Int) (a0_3 : Int) (a0_4 : ByteArray) (r : Bool) (w : World) (h : note_may.f k a0_0 a0_1 a0_2 a0_3 a0_4 = some r) :
    Calls Try.prog 45 #[.agg #[.int .i64 a0_0, .int .u64 a0_1, .int .u64 a0_2, .int .u64 a0_3, .string a0_4]] w fun e w' => e = .returned (.bool r) ∧ Below w.heap.size w w' := by
  obtain rfl := Option.some.inj h
  unfold nmayB
  by_cases h1 : a0_0 = 1
  · subst h1; exact nm_1 a0_1 a0_2 a0_3 a0_4 w
  rw [if_neg h1]
  by_cases h2 : a0_0 = 2
  · subst h2; exact nm_2 a0_1 a0_2 a0_3 a0_4 w
  rw [if_neg h2]
  by_cases h3 : a0_0 = 3
  · subst h3; exact nm_3 a0_1 a0_2 a0_3 a0_4 w
  rw [if_neg h3]
  by_cases h4 : a0_0 = 4
  · subst h4; exact nm_4 a0_1 a0_2 a0_3 a0_4 w
  rw [if_neg h4]
  exact nm_0 a0_0 (beq_eq_false_iff_ne.2 h1) (beq_eq_false_iff_ne.2 h2) (beq_eq_false_iff_ne.2 h3) (beq_eq_false_iff_ne.2 h4) a0_1 a0_2 a0_3 a0_4 w
end Go.Proofs.Ytfjhlcbpogihmaa.Pr
end
section
namespace Go.Proofs.Ytfjhlcbpogihmaa.Pr
open Go.RowKit Go.Proofs.YtfjhlcbpogihmaaW.PrintWords Go.Proofs.YtfjhlcbpogihmaaW.PrintLast Go.Proofs.YtfjhlcbpogihmaaW.PrintMore
open Go.Proofs.Ytfjhlcbpogihmaa.Hnd
attribute [local go_sem] setCell_drewN_ alloc_drewN_
set_option linter.unusedVariables false
set_option linter.unusedSimpArgs false
/-- So many numbers that begin a text, behind those that were taken. -/
def severalF (k : Nat) : Nat → ByteArray → List Int → Option (List Int × ByteArray × Int)
  | 0, s, out => some (out, s, 0)
  | n + 1, s, out => (pack_TakeNum.f k s).bind fun b => if b.2.2 = 0 then (if out.length < 17592186044415 then severalF k n b.2.1 (out ++ [b.1]) else none) else some ([], (⟨#[]⟩ : ByteArray), b.2.2)
def inU (x : Int) : Bool := decide (0 ≤ x) && decide (x < 18446744073709551616)
def pack_TakeNums.f (k : Nat) (a0 : ByteArray) (a1 : Int) : Option (List Int × ByteArray × Int) :=
  (pack_TakeNum.f k a0).bind fun b => if inU b.1 = true then (if b.2.2 = 0 then (if a1 < 0 then some ([], (⟨#[]⟩ : ByteArray), 4) else if b.1 > IntKind.u64.wrap a1 then some ([], (⟨#[]⟩ : ByteArray), 4) else severalF k b.1.toNat b.2.1 []) else some ([], (⟨#[]⟩ : ByteArray), b.2.2)) else none
theorem infoU8s : (Try.prog.info? 25).map (fun i => (i.zero, i.size, i.bytes)) = some (some (.int .u64 0), 1, 8) := by kernel_rfl
set_option maxHeartbeats 4000000 in
set_option maxRecDepth 100000 in
theorem several_calls (k : Nat) (s0 : ByteArray) (n : Nat) (hn : (n : Int) < 18446744073709551616) (r1 : List Int) (r2 : ByteArray) (r3 : Int) (w : World) (h : severalF k n s0 [] = some (r1, r2, r3)) :
    Calls Try.prog 94 #[.string s0, .int .u64 (n : Int), .func (.func 92) #[] #[]] w fun e w' => ∃ v0_ : Value, e = .returned (.tuple #[v0_, .string r2, .int .i64 r3]) ∧ Kd.R (Kd.int .u64) 25 w' w.heap.size (fun _ => True) v0_ r1 ∧ Below w.heap.size w w' := by
  have HF := Aside0.mk h
  have HN := Aside0.mk hn
  clear h hn
  go_enter Try.func94, Try.ntmps94
  go_wp2_with fail
  go_loopg [0, 9, 10, 11, 12, 14] n (fun g v0 v9 v10 v11 v12 v14 wr => ∃ (i : Nat) (s : ByteArray) (out : List Int), v0 = .string s ∧ v14 = .int .u64 (i : Int) ∧ Aside0 (i ≤ n ∧ n - i ≤ g) ∧ Aside0 (severalF k (n - i) s out = some (r1, r2, r3)) ∧ Aside0 (Kd.R (Kd.int .u64) 25 wr w.heap.size (fun _ => True) v9 out) ∧ Aside0 (Below w.heap.size w wr))
  case atStart => exact ⟨0, s0, [], rfl, rfl, ⟨by omega⟩, HF, ⟨Kd.R_nil _ _ _ _ _⟩, ⟨Below.refl _ _⟩⟩
  case round =>
    clear HF
    obtain ⟨i, s, out, rfl, rfl, HI, HT, HO, HB⟩ := hrel
    by_cases hlt : (i : Int) < (n : Int)
    · have hltb := decide_eq_true hlt
      have hT := HT.out
      rw [show n - i = (n - (i + 1)) + 1 from by omega] at hT
      unfold severalF at hT
      replace hT := Option.bind_eq_some_iff.mp hT
      obtain ⟨⟨x, rest, er⟩, hN, hT⟩ := hT
      have HTN := Aside0.mk hN
      clear hN HT
      dsimp only at hT
      have hwi : IntKind.u64.wrap ((i : Int) + 1) = ((i + 1 : Nat) : Int) := by have := HN.out; simp [IntKind.wrap, IntKind.signed, IntKind.bits]; omega
      by_cases her : er = 0
      · rw [if_pos her] at hT
        by_cases hlen : out.length < 17592186044415
        rotate_left
        · rw [if_neg hlen] at hT; cases hT
        rw [if_pos hlen] at hT
        have HT := Aside0.mk hT
        have HLen := Aside0.mk hlen
        have hneb : (er != 0) = false := by rw [her]; rfl
        clear hT hlen
        subst her
        go_wp2_with fail
        refine (pack_TakeNum.calls k s x rest 0 _ HTN.out).mono ?_
        rintro e w1 ⟨rfl, hb0⟩
        have hb := hb0.below
        have HB1 := Aside0.mk (below_call HB.out hb)
        have HO1 := Aside0.mk (Kd.R_below HO.out hb)
        clear hb hb0
        obtain ⟨Ao, co, eo⟩ := Kd.R_slice HO1.out
        subst eo
        go_wp2_with ((with_reducible refine gate_builtin (b := .append) (xs := #[.tmp 26, .tmp 28]) rfl ?_); (try (refine gate_guard (by rfl) ?_; dsimp only)); at_builtin; refine Kd.R_append (Kd.int .u64) (w0 := w) w.heap.size rfl (.tmp 26) (.tmp 28) 79 25 (.int .u64 0) 8 rfl Try.underlying79 infoU8s rfl (by decide) (by omega) _ out x [.int .u64 x] (fun _ => True) (fun _ => False) rfl rfl ?aP (fun _ hk => hk.elim) ?aF ?aO ?aB ?aS ?aL ?_; (case aP => exact rfl); (case aB => exact HB1.out); (case aF => exact (fun _ _ => trivial)); (case aO => exact HO1.out); (case aS => exact HB1.out.size); (case aL => have := HLen.out; omega); intro v4 w4 ho hb hg hat; have HO4 := Aside0.mk ho; have HB4 := Aside0.mk hb; clear ho hb hg hat)
        go_roundg (gk - 1)
        case measure => have := HI.out; omega
        case rel => exact ⟨i + 1, rest, out ++ [x], rfl, by first | rfl | (rw [hwi]), ⟨by have := HI.out; omega⟩, HT, HO4, HB4⟩
      · rw [if_neg her] at hT
        simp only [Option.some.injEq, Prod.mk.injEq] at hT
        obtain ⟨rfl, rfl, rfl⟩ := hT
        have hneb : (er != 0) = true := bne_iff_ne.mpr her
        go_wp2_with fail
        refine (pack_TakeNum.calls k s x rest er _ HTN.out).mono ?_
        rintro e w1 ⟨rfl, hb0⟩
        have HB1 := Aside0.mk (below_call HB.out (hb0.below))
        clear hb0
        go_wp2_with fail
        go_ret3
        exact ⟨_, rfl, Kd.R_nil _ _ _ _ _, HB1.out⟩
    · have hltb := decide_eq_false hlt
      have hie : i = n := by have := HI.out; omega
      have hT := HT.out
      rw [hie, Nat.sub_self] at hT
      unfold severalF at hT
      simp only [Option.some.injEq, Prod.mk.injEq] at hT
      obtain ⟨rfl, rfl, rfl⟩ := hT
      clear HT hie
      go_wp2_with fail
      go_ret3
      exact ⟨_, rfl, HO.out, HB.out⟩
set_option maxHeartbeats 4000000 in
set_option maxRecDepth 100000 in
theorem pack_TakeNums.calls (k : Nat) (a0 : ByteArray) (a1 : Int) (r1 : List Int) (r2 : ByteArray) (r3 : Int) (w : World) (h : pack_TakeNums.f k a0 a1 = some (r1, r2, r3)) :
    Calls Try.prog 83 #[.string a0, .int .i64 a1] w fun e w' => ∃ v0_ : Value, e = .returned (.tuple #[v0_, .string r2, .int .i64 r3]) ∧ Kd.R (Kd.int .u64) 25 w' w.heap.size (fun _ => True) v0_ r1 ∧ Below w.heap.size w w' := by
  unfold pack_TakeNums.f at h
  replace h := Option.bind_eq_some_iff.mp h
  obtain ⟨⟨x, rest, er⟩, hN, h⟩ := h
  dsimp only at h
  by_cases hx : inU x = true
  rotate_left
  · rw [if_neg hx] at h; cases h
  rw [if_pos hx] at h
  have HTN := Aside0.mk hN
  have HX := Aside0.mk hx
  clear hN hx
  by_cases her : er = 0
  · rw [if_pos her] at h
    have hneb : (er != 0) = false := by rw [her]; rfl
    subst her
    by_cases hm : a1 < 0
    · rw [if_pos hm] at h
      simp only [Option.some.injEq, Prod.mk.injEq] at h
      obtain ⟨rfl, rfl, rfl⟩ := h
      have hmb := decide_eq_true hm
      clear hm
      go_enter Try.func83, Try.ntmps83
      go_wp2_with fail
      refine (pack_TakeNum.calls k a0 x rest 0 _ HTN.out).mono ?_
      rintro e w1 ⟨rfl, hb0⟩
      have HB1 := Aside0.mk (hb0.below)
      clear hb0
      go_wp2_with fail
      go_ret3
      exact ⟨_, rfl, Kd.R_nil _ _ _ _ _, HB1.out⟩
    · rw [if_neg hm] at h
      have hmb := decide_eq_false hm
      by_cases hg : x > IntKind.u64.wrap a1
      · rw [if_pos hg] at h
        simp only [Option.some.injEq, Prod.mk.injEq] at h
        obtain ⟨rfl, rfl, rfl⟩ := h
        have hgb : decide (IntKind.u64.wrap a1 < x) = true := decide_eq_true hg
        have hgc : decide (x > IntKind.u64.wrap a1) = true := decide_eq_true hg
        clear hm hg
        go_enter Try.func83, Try.ntmps83
        go_wp2_with fail
        refine (pack_TakeNum.calls k a0 x rest 0 _ HTN.out).mono ?_
        rintro e w1 ⟨rfl, hb0⟩
        have HB1 := Aside0.mk (hb0.below)
        clear hb0
        go_wp2_with fail
        go_ret3
        exact ⟨_, rfl, Kd.R_nil _ _ _ _ _, HB1.out⟩
      · rw [if_neg hg] at h
        have hgb : decide (IntKind.u64.wrap a1 < x) = false := decide_eq_false hg
        have hgc : decide (x > IntKind.u64.wrap a1) = false := decide_eq_false hg
        clear hm hg
        have hx := HX.out
        unfold inU at hx
        rw [Bool.and_eq_true, decide_eq_true_iff, decide_eq_true_iff] at hx
        have HS := Aside0.mk h
        obtain ⟨n, hn⟩ : ∃ n : Nat, x = (n : Int) := ⟨x.toNat, by omega⟩
        subst hn
        rw [Int.toNat_natCast] at HS
        have HN := Aside0.mk hx.2
        clear h hx
        go_enter Try.func83, Try.ntmps83
        go_wp2_with fail
        refine (pack_TakeNum.calls k a0 (n : Int) rest 0 _ HTN.out).mono ?_
        rintro e w1 ⟨rfl, hb0⟩
        have HB1 := Aside0.mk (hb0.below)
        clear hb0
        go_wp2_with fail
        refine (several_calls k rest n HN.out r1 r2 r3 _ HS.out).mono ?_
        rintro e w2 ⟨v2, rfl, ho, hb⟩
        have HB2 := Aside0.mk (below_call HB1.out hb)
        have HO2 := Aside0.mk (Kd.R_lower ho HB1.out.size)
        clear ho hb
        go_wp2_with fail
        go_ret3
        exact ⟨_, rfl, HO2.out, HB2.out⟩
  · rw [if_neg her] at h
    simp only [Option.some.injEq, Prod.mk.injEq] at h
    obtain ⟨rfl, rfl, rfl⟩ := h
    have hneb : (er != 0) = true := bne_iff_ne.mpr her
    go_enter Try.func83, Try.ntmps83
    go_wp2_with fail
    refine (pack_TakeNum.calls k a0 x rest er _ HTN.out).mono ?_
    rintro e w1 ⟨rfl, hb0⟩
    have HB1 := Aside0.mk (hb0.below)
    clear hb0
    go_wp2_with fail
    go_ret3
    exact ⟨_, rfl, Kd.R_nil _ _ _ _ _, HB1.out⟩
end Go.Proofs.Ytfjhlcbpogihmaa.Pr
end
section
namespace Go.Proofs.Ytfjhlcbpogihmaa.Pr
open Go.RowKit Go.Proofs.YtfjhlcbpogihmaaW.PrintWords Go.Proofs.YtfjhlcbpogihmaaW.PrintLast Go.Proofs.YtfjhlcbpogihmaaW.PrintMore
theorem row_below {B : Nat} {a w : World} {g : Nat} (h : Below B a w) (hg : B ≤ g) (c : Array Value) : Below B a (w.setRow g c) :=
  h.trans ⟨rfl, rfl, rfl, by simp, fun k hk => setRow_other w g k c (by omega)⟩
end Go.Proofs.Ytfjhlcbpogihmaa.Pr
end
section
namespace Go.Proofs.Ytfjhlcbpogihmaa.Opn
open Go.ChangeShapes Go.WideShapes Go.Deep Go.RowKit Go.Proofs.YtfjhlcbpogihmaaW.PrintWords Go.Proofs.Ytfjhlcbpogihmaa.Rows
theorem bulk_mem {H : Type} : ∀ (l : List (DataW H)) (d : DataW H), d ∈ l → uptoBulk d ≤ uptoBulkAll l
  | [], _, hd => by cases hd
  | x :: r, d, hd => by
    simp only [uptoBulkAll]
    rcases List.mem_cons.1 hd with rfl | hd
    · omega
    · have := bulk_mem r d hd
      omega
/-- What is paid of one argument. -/
theorem bulk_of {H : Type} {ds : List (DataW H)} {j : Nat} {d : DataW H} (hk : uptoSmall H ds = true) (hd : ds[j]? = some d) : uptoBulk d ≤ 1048576 := by
  have h : uptoBulkAll ds ≤ 1048576 := of_decide_eq_true hk
  exact Nat.le_trans (bulk_mem ds d (List.mem_of_getElem? hd)) h
end Go.Proofs.Ytfjhlcbpogihmaa.Opn
end
section
namespace Go.Proofs.Ytfjhlcbpogihmaa.Pr
open Go.RowKit Go.Proofs.Ytfjhlcbpogihmaa.Opn Go.Proofs.YtfjhlcbpogihmaaW.PrintWords Go.Proofs.YtfjhlcbpogihmaaW.PrintLast Go.Proofs.YtfjhlcbpogihmaaW.PrintMore
set_option maxRecDepth 100000
end Go.Proofs.Ytfjhlcbpogihmaa.Pr
end
section
namespace Go.Proofs.Ytfjhlcbpogihmaa.Pr
open Go.RowKit Go.Proofs.YtfjhlcbpogihmaaW.PrintWords Go.Proofs.YtfjhlcbpogihmaaW.PrintLast Go.Proofs.YtfjhlcbpogihmaaW.PrintMore
theorem u8_join64 {x t : Int} (h0 : 0 ≤ x) (h1 : x < 64) (ht : t = 0 ∨ t = 64 ∨ t = 128 ∨ t = 192) : Go.bits .or .u8 x t = x + t := by
  obtain ⟨n, rfl⟩ := Int.eq_ofNat_of_zero_le h0
  have hn : n < 64 := by omega
  rcases ht with rfl | rfl | rfl | rfl
  · exact (by decide +kernel : ∀ n : Fin 64, Go.bits .or .u8 (n.val : Int) 0 = (n.val : Int) + 0) ⟨n, hn⟩
  · exact (by decide +kernel : ∀ n : Fin 64, Go.bits .or .u8 (n.val : Int) 64 = (n.val : Int) + 64) ⟨n, hn⟩
  · exact (by decide +kernel : ∀ n : Fin 64, Go.bits .or .u8 (n.val : Int) 128 = (n.val : Int) + 128) ⟨n, hn⟩
  · exact (by decide +kernel : ∀ n : Fin 64, Go.bits .or .u8 (n.val : Int) 192 = (n.val : Int) + 192) ⟨n, hn⟩
theorem num1_eq {v : Int} (h0 : 0 ≤ v) (h1 : v < 64) : num1 v = [v] := by
  unfold num1
  rw [u8_join64 h0 h1 (by omega), Int.add_zero]
theorem num2_eq {v : Int} (h0 : 64 ≤ v) (h1 : v < 16384) : num2 v = [v / 256 + 64, v % 256] := by
  unfold num2
  rw [u8_join64 (by omega) (by omega) (by omega)]
theorem num4_eq {v : Int} (h0 : 16384 ≤ v) (h1 : v < 1073741824) : num4 v = [v / 16777216 + 128, v / 65536 % 256, v / 256 % 256, v % 256] := by
  unfold num4
  rw [u8_join64 (by omega) (by omega) (by omega)]
theorem num8_eq {v : Int} (h0 : 1073741824 ≤ v) (h1 : v < 4611686018427387904) : num8 v = [v / 72057594037927936 + 192, v / 281474976710656 % 256, v / 1099511627776 % 256, v / 4294967296 % 256, v / 16777216 % 256, v / 65536 % 256, v / 256 % 256, v % 256] := by
  unfold num8
  rw [u8_join64 (by omega) (by omega) (by omega)]
theorem numL_length {v : Int} : ((numL v).length : Int) = sizeI v := by
  unfold numL sizeI
  split
  · rfl
  · split
    · rfl
    · split
      · rfl
      · split <;> rfl
theorem size_num (v : Int) : ((strOfNums (numL v)).size : Int) = sizeI v := by rw [strOfNums_size]; exact numL_length
theorem size_f {v : Int} (h : inU64 v) : pack_Size.f v = some (sizeI v) := by unfold pack_Size.f; rw [if_pos h]
theorem sizeI_cases (v : Int) : (v < 64 ∧ sizeI v = 1) ∨ (64 ≤ v ∧ v < 16384 ∧ sizeI v = 2) ∨ (16384 ≤ v ∧ v < 1073741824 ∧ sizeI v = 4) ∨ (1073741824 ≤ v ∧ v < 4611686018427387904 ∧ sizeI v = 8) ∨ (4611686018427387904 ≤ v ∧ sizeI v = 0) := by
  unfold sizeI
  split
  · omega
  · split
    · omega
    · split
      · omega
      · split <;> omega
end Go.Proofs.Ytfjhlcbpogihmaa.Pr
end
section
namespace Go.Proofs.Ytfjhlcbpogihmaa.Pr
open Go.RowKit Go.Proofs.YtfjhlcbpogihmaaW.PrintWords Go.Proofs.YtfjhlcbpogihmaaW.PrintLast Go.Proofs.YtfjhlcbpogihmaaW.PrintMore
theorem wrap_in {x : Int} (h0 : 0 ≤ x) (h1 : x < 18446744073709551616) : IntKind.u64.wrap x = x := by
  rw [IntKind.wrap_u64]
  omega
theorem wrap64_in {x : Int} (h0 : 0 ≤ x) (h1 : x < 100) : wrap64 x = x := by
  simp [wrap64]
  omega
theorem or_step {x b : Int} (hb0 : 0 ≤ b) (hb1 : b ≤ 255) : Go.bits .or .u64 (IntKind.u64.wrap (x * 256)) (IntKind.u64.wrap b) = IntKind.u64.wrap (IntKind.u64.wrap (x * 256) + IntKind.u64.wrap b) := by
  rw [IntKind.wrap_u64 (x * 256), wrap_in hb0 (by omega), wrap_in (by omega) (by omega)]
  exact bits_join .u64 64 (by decide) (fun n h0 h1 => wrap_in h0 (by omega)) 8 _ _ (by omega) (by omega) (by omega) hb0 (by omega) (by omega)
theorem or_val {x b : Int} (hx0 : 0 ≤ x) (hx : x < 72057594037927936) (hb0 : 0 ≤ b) (hb1 : b ≤ 255) : Go.bits .or .u64 (IntKind.u64.wrap (x * 256)) (IntKind.u64.wrap b) = x * 256 + b := by
  rw [or_step hb0 hb1, wrap_in (x := x * 256) (by omega) (by omega), wrap_in hb0 (by omega), wrap_in (by omega) (by omega)]
theorem inU64_wrap (x : Int) : inU64 (IntKind.u64.wrap x) := by
  rw [IntKind.wrap_u64]
  unfold inU64
  omega
theorem rsize_f (v : Int) : ferruleref01_Size.f v = some (sizeI v) := by
  unfold ferruleref01_Size.f sizeI
  repeat (first | rfl | split)
theorem toList_nil {a : ByteArray} : a.toList = [] ↔ (a.size : Int) = 0 := by
  rw [ByteArray.toList_eq]
  have := data_length a
  rw [← List.length_eq_zero_iff]
  omega
theorem and63 (s : ByteArray) : IntKind.u64.wrap (Go.bits .and .u8 (bt s 0) 63) = bt s 0 % 64 := by
  obtain ⟨h0, h1⟩ := bt_range s 0
  generalize bt s 0 = b at *
  obtain ⟨n, rfl⟩ := Int.eq_ofNat_of_zero_le h0
  have hn : n < 256 := by omega
  exact (by decide +kernel : ∀ n : Fin 256, IntKind.u64.wrap (Go.bits .and .u8 (n.val : Int) 63) = (n.val : Int) % 64) ⟨n, hn⟩
theorem take_loop : ∀ (d : Nat) (a : ByteArray) (n x i : Int), inU64 x → 0 ≤ i → n ≤ i + d → n < 50 → 0 ≤ n → n ≤ a.size →
    ∃ r, ∀ k, pack_TakeNum.l0 (k + d + 1) a n x i = some r ∧ ferruleref01_TakeNum.l1 (k + d + 1) a n x i = some r := by
  have hend : ∀ (a : ByteArray) (n x i : Int), inU64 x → 0 ≤ n → n ≤ a.size → ¬ i < n → ∃ r, ∀ k, pack_TakeNum.l0 (k + 1) a n x i = some r ∧ ferruleref01_TakeNum.l1 (k + 1) a n x i = some r := by
    intro a n x i hx hn0 hn hi
    by_cases hs : sizeI x = n
    · refine ⟨(x, a.extract n.toNat a.size, 0), fun k => ⟨?_, ?_⟩⟩
      · rw [pack_TakeNum.l0, if_neg hi, size_f hx, Option.bind_some, if_pos hs, if_pos hn0, if_pos hn]
      · rw [ferruleref01_TakeNum.l1, if_neg hi, rsize_f, Option.bind_some, if_pos hs, if_pos hn0, if_pos hn]
    · refine ⟨(0, (⟨#[]⟩ : ByteArray), 3), fun k => ⟨?_, ?_⟩⟩
      · rw [pack_TakeNum.l0, if_neg hi, size_f hx, Option.bind_some, if_neg hs]
      · rw [ferruleref01_TakeNum.l1, if_neg hi, rsize_f, Option.bind_some, if_neg hs]
  intro d
  induction d with
  | zero =>
    intro a n x i hx hi hn hn1 hn0 ha
    exact hend a n x i hx hn0 ha (by omega)
  | succ d ih =>
    intro a n x i hx hi hn hn1 hn0 ha
    by_cases hlt : i < n
    · obtain ⟨hb0, hb1⟩ := bt_range a i
      obtain ⟨r, hr⟩ := ih a n (IntKind.u64.wrap (IntKind.u64.wrap (x * 256) + IntKind.u64.wrap (bt a i))) (i + 1) (inU64_wrap _) (by omega) (by omega) hn1 hn0 ha
      refine ⟨r, fun k => ⟨?_, ?_⟩⟩
      · show pack_TakeNum.l0 ((k + d + 1) + 1) a n x i = _
        rw [pack_TakeNum.l0, if_pos hlt, if_pos hi, if_pos (by omega), or_step hb0 hb1, wrap64_in (by omega) (by omega)]
        exact (hr k).1
      · show ferruleref01_TakeNum.l1 ((k + d + 1) + 1) a n x i = _
        rw [ferruleref01_TakeNum.l1, if_pos hlt, if_pos hi, if_pos (by omega), wrap64_in (by omega) (by omega)]
        exact (hr k).2
    · obtain ⟨r, hr⟩ := hend a n x i hx hn0 ha hlt
      exact ⟨r, fun k => hr (k + (d + 1))⟩
theorem ref_head (k : Nat) (a : ByteArray) (ha : 0 < (a.size : Int)) (n i : Int) : ferruleref01_TakeNum.l0 (k + 1) a n i = if i < bt a 0 / 64 then ferruleref01_TakeNum.l0 k a (wrap64 (n * 2)) ((i + 1) % 256) else if (a.size : Int) < n then some (0, (⟨#[]⟩ : ByteArray), 2) else ferruleref01_TakeNum.l1 k a n (bt a 0 % 64) 1 := by
  obtain ⟨hb0, hb1⟩ := bt_range a 0
  rw [ferruleref01_TakeNum.l0, if_pos ha, Int.tdiv_eq_ediv_of_nonneg hb0, Int.tmod_eq_emod_of_nonneg hb0, wrap_in (by omega) (by omega), Int.emod_eq_of_lt (by omega : 0 ≤ bt a 0 / 64) (by omega)]
theorem take_both (a : ByteArray) : ∃ r, pack_TakeNum.f 20 a = some r ∧ ferruleref01_TakeNum.f 20 a = some r := by
  by_cases h0 : (a.size : Int) = 0
  · refine ⟨(0, (⟨#[]⟩ : ByteArray), 2), ?_, ?_⟩
    · unfold pack_TakeNum.f
      rw [if_pos (toList_nil.mpr h0)]
    · unfold ferruleref01_TakeNum.f
      rw [if_pos h0]
  · have hp : 0 < (a.size : Int) := by omega
    obtain ⟨hb0, hb1⟩ := bt_range a 0
    have key : ∀ (n : Int) (q : Nat), q ≤ 3 → bt a 0 / 64 = q → shl .i64 1 (q : Int) = n → 0 ≤ n → n ≤ 8 →
        (∀ k, ferruleref01_TakeNum.l0 (k + q + 1) a 1 0 = if (a.size : Int) < n then some (0, (⟨#[]⟩ : ByteArray), 2) else ferruleref01_TakeNum.l1 k a n (bt a 0 % 64) 1) →
        ∃ r, pack_TakeNum.f 20 a = some r ∧ ferruleref01_TakeNum.f 20 a = some r := by
      intro n q hq hbq hsh hn0 hn8 hl
      unfold pack_TakeNum.f ferruleref01_TakeNum.f
      rw [if_neg (by rw [toList_nil]; exact h0), if_pos hp, if_pos (by omega), if_neg h0, hbq, hsh, and63]
      have h20 : ferruleref01_TakeNum.l0 20 a 1 0 = ferruleref01_TakeNum.l0 ((19 - q) + q + 1) a 1 0 := by congr 1; omega
      rw [h20, hl]
      by_cases hs : (a.size : Int) < n
      · rw [if_pos hs, if_pos hs]
        exact ⟨_, rfl, rfl⟩
      · rw [if_neg hs, if_neg hs]
        obtain ⟨r, hr⟩ := take_loop 8 a n (bt a 0 % 64) 1 (by unfold inU64; omega) (by omega) (by omega) (by omega) hn0 (by omega)
        refine ⟨r, (hr 11).1, ?_⟩
        have h19 : ferruleref01_TakeNum.l1 (19 - q) a n (bt a 0 % 64) 1 = ferruleref01_TakeNum.l1 ((10 - q) + 8 + 1) a n (bt a 0 % 64) 1 := by congr 1; omega
        rw [h19]
        exact (hr (10 - q)).2
    have hcase : bt a 0 / 64 = 0 ∨ bt a 0 / 64 = 1 ∨ bt a 0 / 64 = 2 ∨ bt a 0 / 64 = 3 := by omega
    have w2 : wrap64 (1 * 2) = 2 := wrap64_in (by omega) (by omega)
    have w4 : wrap64 (2 * 2) = 4 := wrap64_in (by omega) (by omega)
    have w8 : wrap64 (4 * 2) = 8 := wrap64_in (by omega) (by omega)
    rcases hcase with h | h | h | h
    · refine key 1 0 (by omega) h (by decide +kernel) (by omega) (by omega) (fun k => ?_)
      rw [ref_head _ a hp, if_neg (by omega)]
    · refine key 2 1 (by omega) h (by decide +kernel) (by omega) (by omega) (fun k => ?_)
      rw [ref_head _ a hp, if_pos (by omega), ref_head _ a hp, if_neg (by omega), w2]
    · refine key 4 2 (by omega) h (by decide +kernel) (by omega) (by omega) (fun k => ?_)
      rw [ref_head _ a hp, if_pos (by omega), ref_head _ a hp, if_pos (by omega), ref_head _ a hp, if_neg (by omega), w2, w4]
    · refine key 8 3 (by omega) h (by decide +kernel) (by omega) (by omega) (fun k => ?_)
      rw [ref_head _ a hp, if_pos (by omega), ref_head _ a hp, if_pos (by omega), ref_head _ a hp, if_pos (by omega), ref_head _ a hp, if_neg (by omega), w2, w4, w8]
theorem take_step (k : Nat) (s : ByteArray) (n x i b y : Int) (hi : i < n) (h0 : 0 ≤ i) (hs : i < s.size) (hb : bt s i = b) (hb0 : 0 ≤ b ∧ b ≤ 255) (hx0 : 0 ≤ x) (hx : x < 72057594037927936) (hy : x * 256 + b = y) (hi8 : i < 8) : pack_TakeNum.l0 (k + 1) s n x i = pack_TakeNum.l0 k s n y (i + 1) := by
  rw [pack_TakeNum.l0, if_pos hi, if_pos h0, if_pos hs, hb, or_val hx0 hx hb0.1 hb0.2, hy, wrap64_in (by omega) (by omega)]
end Go.Proofs.Ytfjhlcbpogihmaa.Pr
end
section
namespace Go.Proofs.Ytfjhlcbpogihmaa.Pr
open Go.RowKit Go.Proofs.YtfjhlcbpogihmaaW.PrintWords Go.Proofs.YtfjhlcbpogihmaaW.PrintLast Go.Proofs.YtfjhlcbpogihmaaW.PrintMore
end Go.Proofs.Ytfjhlcbpogihmaa.Pr
end
section
namespace Go.Proofs.Ytfjhlcbpogihmaa.Pr
open Go.RowKit Go.Proofs.YtfjhlcbpogihmaaW.PrintWords Go.Proofs.YtfjhlcbpogihmaaW.PrintLast Go.Proofs.YtfjhlcbpogihmaaW.PrintMore
theorem extract_bytes (a : ByteArray) (n : Nat) (h : n ≤ a.size) : strOfNums ((List.range n).map fun i : Nat => bt a (i : Int)) = a.extract 0 n := by
  apply ByteArray.ext
  apply Array.ext
  · show (strOfNums _).size = (a.extract 0 n).size
    rw [strOfNums_size, ByteArray.size_extract]
    simp only [List.length_map, List.length_range]
    omega
  · intro i h1 h2
    have hi : i < n := by
      have : i < (strOfNums ((List.range n).map fun i : Nat => bt a (i : Int))).size := h1
      rw [strOfNums_size] at this
      simpa using this
    have hia : i < a.size := by omega
    have hl : (strOfNums ((List.range n).map fun i : Nat => bt a (i : Int))).data[i]'h1 = UInt8.ofNat (bt a (i : Int)).toNat := by
      simp [strOfNums]
    rw [hl]
    have hb : bt a (i : Int) = ((a[i]'hia).toNat : Int) := by
      have := bt_at a (i : Int) (by simpa using hia)
      rw [← this]
      simp
    rw [hb]
    have hr : (a.extract 0 n).data[i]'h2 = a[i]'hia := by
      simp only [ByteArray.data_extract, Array.getElem_extract, Nat.zero_add]
      rfl
    rw [hr]
    simp
theorem end_step (k : Nat) (a : ByteArray) (n x i : Int) (hx : inU64 x) (hn0 : 0 ≤ n) (hn : n ≤ a.size) (hi : ¬ i < n) : pack_TakeNum.l0 (k + 1) a n x i = if sizeI x = n then some (x, a.extract n.toNat a.size, 0) else some (0, (⟨#[]⟩ : ByteArray), 3) := by
  rw [pack_TakeNum.l0, if_neg hi, size_f hx, Option.bind_some, if_pos hn0, if_pos hn]
theorem run1 (a : ByteArray) (hs : (1 : Int) ≤ a.size) (hq : bt a 0 / 64 = 0) : ∃ v, pack_TakeNum.l0 20 a 1 (bt a 0 % 64) 1 = (if sizeI v = 1 then some (v, a.extract 1 a.size, 0) else some (0, (⟨#[]⟩ : ByteArray), 3)) ∧ inU64 v ∧ (sizeI v = 1 → numL v = [bt a 0]) := by
  have r0 := bt_range a 0
  obtain ⟨x1, e1⟩ : ∃ x, x = bt a 0 % 64 := ⟨_, rfl⟩
  refine ⟨x1, ?_, ?_, ?_⟩
  · rw [← e1]
    rw [end_step 19 a 1 x1 1 (by unfold inU64; omega) (by omega) hs (by omega)]
    rfl
  · unfold inU64; omega
  · intro hz
    have hv : 0 ≤ x1 ∧ x1 < 64 := by have := sizeI_cases x1; omega
    unfold numL
    rw [if_pos hv.2, num1_eq hv.1 hv.2]
    simp only [List.cons.injEq, and_true]
    omega
theorem run2 (a : ByteArray) (hs : (2 : Int) ≤ a.size) (hq : bt a 0 / 64 = 1) : ∃ v, pack_TakeNum.l0 20 a 2 (bt a 0 % 64) 1 = (if sizeI v = 2 then some (v, a.extract 2 a.size, 0) else some (0, (⟨#[]⟩ : ByteArray), 3)) ∧ inU64 v ∧ (sizeI v = 2 → numL v = [bt a 0, bt a 1]) := by
  have r0 := bt_range a 0
  have r1 := bt_range a 1
  obtain ⟨x1, e1⟩ : ∃ x, x = bt a 0 % 64 := ⟨_, rfl⟩
  obtain ⟨x2, e2⟩ : ∃ x, x = x1 * 256 + bt a 1 := ⟨_, rfl⟩
  refine ⟨x2, ?_, ?_, ?_⟩
  · rw [← e1]
    rw [take_step 19 a 2 x1 1 (bt a 1) x2 (by omega) (by omega) (by omega) rfl r1 (by omega) (by omega) e2.symm (by omega)]
    rw [(by omega : (1 : Int) + 1 = 2)]
    rw [end_step 18 a 2 x2 2 (by unfold inU64; omega) (by omega) hs (by omega)]
    rfl
  · unfold inU64; omega
  · intro hz
    have hv : 64 ≤ x2 ∧ x2 < 16384 := by have := sizeI_cases x2; omega
    unfold numL
    rw [if_neg (by omega), if_pos hv.2, num2_eq hv.1 hv.2]
    simp only [List.cons.injEq, and_true]
    refine ⟨?_, ?_⟩ <;> omega
theorem run4 (a : ByteArray) (hs : (4 : Int) ≤ a.size) (hq : bt a 0 / 64 = 2) : ∃ v, pack_TakeNum.l0 20 a 4 (bt a 0 % 64) 1 = (if sizeI v = 4 then some (v, a.extract 4 a.size, 0) else some (0, (⟨#[]⟩ : ByteArray), 3)) ∧ inU64 v ∧ (sizeI v = 4 → numL v = [bt a 0, bt a 1, bt a 2, bt a 3]) := by
  have r0 := bt_range a 0
  have r1 := bt_range a 1
  have r2 := bt_range a 2
  have r3 := bt_range a 3
  obtain ⟨x1, e1⟩ : ∃ x, x = bt a 0 % 64 := ⟨_, rfl⟩
  obtain ⟨x2, e2⟩ : ∃ x, x = x1 * 256 + bt a 1 := ⟨_, rfl⟩
  obtain ⟨x3, e3⟩ : ∃ x, x = x2 * 256 + bt a 2 := ⟨_, rfl⟩
  obtain ⟨x4, e4⟩ : ∃ x, x = x3 * 256 + bt a 3 := ⟨_, rfl⟩
  refine ⟨x4, ?_, ?_, ?_⟩
  · rw [← e1]
    rw [take_step 19 a 4 x1 1 (bt a 1) x2 (by omega) (by omega) (by omega) rfl r1 (by omega) (by omega) e2.symm (by omega)]
    rw [(by omega : (1 : Int) + 1 = 2)]
    rw [take_step 18 a 4 x2 2 (bt a 2) x3 (by omega) (by omega) (by omega) rfl r2 (by omega) (by omega) e3.symm (by omega)]
    rw [(by omega : (2 : Int) + 1 = 3)]
    rw [take_step 17 a 4 x3 3 (bt a 3) x4 (by omega) (by omega) (by omega) rfl r3 (by omega) (by omega) e4.symm (by omega)]
    rw [(by omega : (3 : Int) + 1 = 4)]
    rw [end_step 16 a 4 x4 4 (by unfold inU64; omega) (by omega) hs (by omega)]
    rfl
  · unfold inU64; omega
  · intro hz
    have hv : 16384 ≤ x4 ∧ x4 < 1073741824 := by have := sizeI_cases x4; omega
    unfold numL
    rw [if_neg (by omega), if_neg (by omega), if_pos hv.2, num4_eq hv.1 hv.2]
    simp only [List.cons.injEq, and_true]
    refine ⟨?_, ?_, ?_, ?_⟩ <;> omega
theorem run8 (a : ByteArray) (hs : (8 : Int) ≤ a.size) (hq : bt a 0 / 64 = 3) : ∃ v, pack_TakeNum.l0 20 a 8 (bt a 0 % 64) 1 = (if sizeI v = 8 then some (v, a.extract 8 a.size, 0) else some (0, (⟨#[]⟩ : ByteArray), 3)) ∧ inU64 v ∧ (sizeI v = 8 → numL v = [bt a 0, bt a 1, bt a 2, bt a 3, bt a 4, bt a 5, bt a 6, bt a 7]) := by
  have r0 := bt_range a 0
  have r1 := bt_range a 1
  have r2 := bt_range a 2
  have r3 := bt_range a 3
  have r4 := bt_range a 4
  have r5 := bt_range a 5
  have r6 := bt_range a 6
  have r7 := bt_range a 7
  obtain ⟨x1, e1⟩ : ∃ x, x = bt a 0 % 64 := ⟨_, rfl⟩
  obtain ⟨x2, e2⟩ : ∃ x, x = x1 * 256 + bt a 1 := ⟨_, rfl⟩
  obtain ⟨x3, e3⟩ : ∃ x, x = x2 * 256 + bt a 2 := ⟨_, rfl⟩
  obtain ⟨x4, e4⟩ : ∃ x, x = x3 * 256 + bt a 3 := ⟨_, rfl⟩
  obtain ⟨x5, e5⟩ : ∃ x, x = x4 * 256 + bt a 4 := ⟨_, rfl⟩
  obtain ⟨x6, e6⟩ : ∃ x, x = x5 * 256 + bt a 5 := ⟨_, rfl⟩
  obtain ⟨x7, e7⟩ : ∃ x, x = x6 * 256 + bt a 6 := ⟨_, rfl⟩
  obtain ⟨x8, e8⟩ : ∃ x, x = x7 * 256 + bt a 7 := ⟨_, rfl⟩
  refine ⟨x8, ?_, ?_, ?_⟩
  · rw [← e1]
    rw [take_step 19 a 8 x1 1 (bt a 1) x2 (by omega) (by omega) (by omega) rfl r1 (by omega) (by omega) e2.symm (by omega)]
    rw [(by omega : (1 : Int) + 1 = 2)]
    rw [take_step 18 a 8 x2 2 (bt a 2) x3 (by omega) (by omega) (by omega) rfl r2 (by omega) (by omega) e3.symm (by omega)]
    rw [(by omega : (2 : Int) + 1 = 3)]
    rw [take_step 17 a 8 x3 3 (bt a 3) x4 (by omega) (by omega) (by omega) rfl r3 (by omega) (by omega) e4.symm (by omega)]
    rw [(by omega : (3 : Int) + 1 = 4)]
    rw [take_step 16 a 8 x4 4 (bt a 4) x5 (by omega) (by omega) (by omega) rfl r4 (by omega) (by omega) e5.symm (by omega)]
    rw [(by omega : (4 : Int) + 1 = 5)]
    rw [take_step 15 a 8 x5 5 (bt a 5) x6 (by omega) (by omega) (by omega) rfl r5 (by omega) (by omega) e6.symm (by omega)]
    rw [(by omega : (5 : Int) + 1 = 6)]
    rw [take_step 14 a 8 x6 6 (bt a 6) x7 (by omega) (by omega) (by omega) rfl r6 (by omega) (by omega) e7.symm (by omega)]
    rw [(by omega : (6 : Int) + 1 = 7)]
    rw [take_step 13 a 8 x7 7 (bt a 7) x8 (by omega) (by omega) (by omega) rfl r7 (by omega) (by omega) e8.symm (by omega)]
    rw [(by omega : (7 : Int) + 1 = 8)]
    rw [end_step 12 a 8 x8 8 (by unfold inU64; omega) (by omega) hs (by omega)]
    rfl
  · unfold inU64; omega
  · intro hz
    have hv : 1073741824 ≤ x8 ∧ x8 < 4611686018427387904 := by have := sizeI_cases x8; omega
    unfold numL
    rw [if_neg (by omega), if_neg (by omega), if_neg (by omega), if_pos hv.2, num8_eq hv.1 hv.2]
    simp only [List.cons.injEq, and_true]
    refine ⟨?_, ?_, ?_, ?_, ?_, ?_, ?_, ?_⟩ <;> omega
theorem take_short (k : Nat) (a : ByteArray) (n : Int) (hn : shl .i64 1 (bt a 0 / 64) = n) (m : Nat) (hm : (m : Int) < n) (hma : m ≤ a.size) : pack_TakeNum.f k (a.extract 0 m) = some (0, (⟨#[]⟩ : ByteArray), 2) := by
  have hz : (a.extract 0 m).size = m := by rw [ByteArray.size_extract]; omega
  unfold pack_TakeNum.f
  by_cases h0 : m = 0
  · rw [if_pos (toList_nil.mpr (by omega))]
  · have hb : bt (a.extract 0 m) 0 = bt a 0 := by
      have h1 := bt_at (a.extract 0 m) 0 (by rw [hz]; show 0 < m; omega)
      have h2 := bt_at a 0 (by show 0 < a.size; omega)
      rw [← h1, ← h2]
      congr 1
      show ((a.extract 0 m)[0]'_).toNat = (a[0]'_).toNat
      rw [ByteArray.getElem_extract]
    obtain ⟨hb0, hb1⟩ := bt_range a 0
    rw [if_neg (by rw [toList_nil]; omega), if_pos (by omega), hb, if_pos (by omega), hn, if_pos (by omega)]
theorem take_full (a : ByteArray) : (∃ e, e ≠ 0 ∧ pack_TakeNum.f 20 a = some (0, (⟨#[]⟩ : ByteArray), e)) ∨
    ∃ (n : Nat) (v : Int), 1 ≤ n ∧ n ≤ 8 ∧ n ≤ a.size ∧ pack_TakeNum.f 20 a = some (v, a.extract n a.size, 0) ∧ inU64 v ∧ v < 4611686018427387904 ∧ strOfNums (numL v) = a.extract 0 n ∧ ∀ k m, m < n → pack_TakeNum.f k (a.extract 0 m) = some (0, (⟨#[]⟩ : ByteArray), 2) := by
  by_cases h0 : (a.size : Int) = 0
  · refine Or.inl ⟨2, by omega, ?_⟩
    unfold pack_TakeNum.f
    rw [if_pos (toList_nil.mpr h0)]
  · obtain ⟨hb0, hb1⟩ := bt_range a 0
    have key : ∀ (n : Nat) (q : Int), 1 ≤ n → n ≤ 8 → bt a 0 / 64 = q → shl .i64 1 q = (n : Int) →
        (n ≤ a.size → ∃ v, pack_TakeNum.l0 20 a (n : Int) (bt a 0 % 64) 1 = (if sizeI v = (n : Int) then some (v, a.extract n a.size, 0) else some (0, (⟨#[]⟩ : ByteArray), 3)) ∧ inU64 v ∧ (sizeI v = (n : Int) → strOfNums (numL v) = a.extract 0 n)) →
        (∃ e, e ≠ 0 ∧ pack_TakeNum.f 20 a = some (0, (⟨#[]⟩ : ByteArray), e)) ∨
        ∃ (n : Nat) (v : Int), 1 ≤ n ∧ n ≤ 8 ∧ n ≤ a.size ∧ pack_TakeNum.f 20 a = some (v, a.extract n a.size, 0) ∧ inU64 v ∧ v < 4611686018427387904 ∧ strOfNums (numL v) = a.extract 0 n ∧ ∀ k m, m < n → pack_TakeNum.f k (a.extract 0 m) = some (0, (⟨#[]⟩ : ByteArray), 2) := by
      intro n q h1 h8 hq hsh hrun
      have hshort := fun (k m : Nat) (hm : m < n) (hma : m ≤ a.size) => take_short k a (n : Int) (by rw [hq]; exact hsh) m (by omega) hma
      have hf : pack_TakeNum.f 20 a = if (a.size : Int) < (n : Int) then some (0, (⟨#[]⟩ : ByteArray), 2) else pack_TakeNum.l0 20 a (n : Int) (bt a 0 % 64) 1 := by
        unfold pack_TakeNum.f
        rw [if_neg (by rw [toList_nil]; exact h0), if_pos (by omega), if_pos (by omega), hq, hsh, and63]
      by_cases hs : (a.size : Int) < (n : Int)
      · refine Or.inl ⟨2, by omega, ?_⟩
        rw [hf, if_pos hs]
      · obtain ⟨v, hv, hi, hL⟩ := hrun (by omega)
        rw [if_neg hs, hv] at hf
        by_cases hz : sizeI v = (n : Int)
        · rw [if_pos hz] at hf
          refine Or.inr ⟨n, v, h1, h8, by omega, hf, hi, ?_, hL hz, fun k m hm => hshort k m hm (by omega)⟩
          have := sizeI_cases v
          omega
        · rw [if_neg hz] at hf
          exact Or.inl ⟨3, by omega, hf⟩
    have hcase : bt a 0 / 64 = 0 ∨ bt a 0 / 64 = 1 ∨ bt a 0 / 64 = 2 ∨ bt a 0 / 64 = 3 := by omega
    rcases hcase with h | h | h | h
    · refine key 1 0 (by omega) (by omega) h (by decide +kernel) (fun hs => ?_)
      obtain ⟨v, hv, hi, hL⟩ := run1 a (by omega) h
      refine ⟨v, hv, hi, fun hz => ?_⟩
      rw [hL hz, ← extract_bytes a 1 hs]
      rfl
    · refine key 2 1 (by omega) (by omega) h (by decide +kernel) (fun hs => ?_)
      obtain ⟨v, hv, hi, hL⟩ := run2 a (by omega) h
      refine ⟨v, hv, hi, fun hz => ?_⟩
      rw [hL hz, ← extract_bytes a 2 hs]
      rfl
    · refine key 4 2 (by omega) (by omega) h (by decide +kernel) (fun hs => ?_)
      obtain ⟨v, hv, hi, hL⟩ := run4 a (by omega) h
      refine ⟨v, hv, hi, fun hz => ?_⟩
      rw [hL hz, ← extract_bytes a 4 hs]
      rfl
    · refine key 8 3 (by omega) (by omega) h (by decide +kernel) (fun hs => ?_)
      obtain ⟨v, hv, hi, hL⟩ := run8 a (by omega) h
      refine ⟨v, hv, hi, fun hz => ?_⟩
      rw [hL hz, ← extract_bytes a 8 hs]
      rfl
end Go.Proofs.Ytfjhlcbpogihmaa.Pr
end
section
set_option linter.unusedVariables false
set_option linter.unusedSimpArgs false
namespace Go.Proofs.Ytfjhlcbpogihmaa.Pr
open Go.RowKit Go.Proofs Go.Proofs.YtfjhlcbpogihmaaW.PrintWords Go.Proofs.YtfjhlcbpogihmaaW.PrintLast Go.Proofs.YtfjhlcbpogihmaaW.PrintMore
open Go.Proofs.Ytfjhlcbpogihmaa.Hnd
end Go.Proofs.Ytfjhlcbpogihmaa.Pr
end
section
namespace Go.Proofs.Ytfjhlcbpogihmaa.Pr
open Go.RowKit Go.Proofs.YtfjhlcbpogihmaaW.PrintWords Go.Proofs.YtfjhlcbpogihmaaW.PrintLast Go.Proofs.YtfjhlcbpogihmaaW.PrintMore
open Go.Proofs.Ytfjhlcbpogihmaa.Hnd
attribute [local go_sem] setCell_drewN_ alloc_drewN_
set_option linter.unusedVariables false
set_option linter.unusedSimpArgs false
/-- The bytes of numbers, behind those that are there. -/
def numsF : List Int → List UInt8 → Option (ByteArray × Int)
  | [], acc => some (⟨acc.toArray⟩, 0)
  | v :: r, acc => (pack_Num.f v).bind fun b => if b.2 = 0 then (if acc.length + b.1.size ≤ 140737488355328 then numsF r (acc ++ b.1.data.toList) else none) else some ((⟨#[]⟩ : ByteArray), b.2)
def pack_Nums.f (l0 : List Int) : Option (ByteArray × Int) := if l0.length ≤ 1048576 then numsF ((l0.length : Int) :: l0) [] else none
end Go.Proofs.Ytfjhlcbpogihmaa.Pr
end
section
namespace Go.Proofs.Ytfjhlcbpogihmaa.Pr
open Go.RowKit Go.Proofs.YtfjhlcbpogihmaaW.PrintWords Go.Proofs.YtfjhlcbpogihmaaW.PrintLast Go.Proofs.YtfjhlcbpogihmaaW.PrintMore
open Go.Proofs.Ytfjhlcbpogihmaa.Hnd
attribute [local go_sem] setCell_drewN_ alloc_drewN_
set_option linter.unusedVariables false
set_option linter.unusedSimpArgs false
/-- The bytes of numbers, behind those that are there, as the document has it. -/
def rnumsF (k : Nat) : List Int → List UInt8 → Option (ByteArray × Int)
  | [], acc => some (⟨acc.toArray⟩, 0)
  | v :: r, acc => (ferruleref01_Num.f k v).bind fun b => if b.2 = 0 then (if acc.length + b.1.size ≤ 140737488355328 then rnumsF k r (acc ++ b.1.data.toList) else none) else some ((⟨#[]⟩ : ByteArray), b.2)
def ref_Nums.f (k : Nat) (l0 : List Int) : Option (ByteArray × Int) := if l0.length ≤ 1048576 then (ferruleref01_Num.f k (l0.length : Int)).bind fun b => (if b.1.size ≤ 140737488355328 then rnumsF k l0 b.1.data.toList else none) else none
end Go.Proofs.Ytfjhlcbpogihmaa.Pr
end
section
namespace Go.Proofs.Ytfjhlcbpogihmaa.Pr
open Go.RowKit Go.Proofs.YtfjhlcbpogihmaaW.PrintWords Go.Proofs.YtfjhlcbpogihmaaW.PrintLast Go.Proofs.YtfjhlcbpogihmaaW.PrintMore
attribute [local go_sem] max2_int min2_int max_two min_two max_three min_three max_four min_four
set_option linter.unusedVariables false
set_option linter.unusedSimpArgs false
/-! ### post_headOf: function 57 -/
def post_headOf.f (a0_0 : Int) (a0_1 : Int) (a0_2 : Int) (a0_3 : Int) (a0_4 : Int) (a0_5 : Int) (a0_6 : Int) (a0_7 : Bool) (l0_8 : List (S75)) (a0_9 : ByteArray) : Option (Int × Int × Int × Int × Int × Int × Int × Bool × ByteArray) := some (IntKind.u64.wrap (a0_0), a0_1, a0_2, a0_3, a0_4, a0_5, a0_6, a0_7, a0_9)
/-! ### pack_Text: function 59 -/
def pack_Text.f (a0 : ByteArray) : Option (ByteArray × Int) := if (a0.size : Int) > 4096 then (some ((⟨#[]⟩ : ByteArray), 4)) else ((pack_Num.f (a0.size : Int)).bind fun bt394 => (if bt394.1.size + a0.size ≤ 9223372036854775807 then (some (bt394.1 ++ a0, bt394.2)) else (none)))
end Go.Proofs.Ytfjhlcbpogihmaa.Pr
end
section
namespace Go.Proofs.Ytfjhlcbpogihmaa.Pr
open Go.RowKit Go.Proofs.YtfjhlcbpogihmaaW.PrintWords Go.Proofs.YtfjhlcbpogihmaaW.PrintLast Go.Proofs.YtfjhlcbpogihmaaW.PrintMore
attribute [local go_sem] max2_int min2_int max_two min_two max_three min_three max_four min_four
set_option linter.unusedVariables false
set_option linter.unusedSimpArgs false
/-! ### pack_TakeText: function 93 -/
def pack_TakeText.f (k : Nat) (a0 : ByteArray) : Option (ByteArray × ByteArray × Int) := (pack_TakeNum.f k a0).bind fun bt535 => (if bt535.2.2 = 0 then (if bt535.1 > 4096 then (some ((⟨#[]⟩ : ByteArray), (⟨#[]⟩ : ByteArray), 4)) else (if bt535.1 > (IntKind.u64.wrap ((bt535.2.1.size : Int))) then (some ((⟨#[]⟩ : ByteArray), (⟨#[]⟩ : ByteArray), 2)) else (if 0 ≤ bt535.1 then (if bt535.1 ≤ (bt535.2.1.size : Int) then (some (bt535.2.1.extract 0 (bt535.1 : Int).toNat, bt535.2.1.extract (bt535.1 : Int).toNat bt535.2.1.size, 0)) else (none)) else (none)))) else (some ((⟨#[]⟩ : ByteArray), (⟨#[]⟩ : ByteArray), bt535.2.2)))
end Go.Proofs.Ytfjhlcbpogihmaa.Pr
end
section
namespace Go.Proofs.Ytfjhlcbpogihmaa.Pr
open Go.RowKit Go.Proofs.YtfjhlcbpogihmaaW.PrintWords Go.Proofs.YtfjhlcbpogihmaaW.PrintLast Go.Proofs.YtfjhlcbpogihmaaW.PrintMore
attribute [local go_sem] max2_int min2_int max_two min_two max_three min_three max_four min_four
set_option linter.unusedVariables false
set_option linter.unusedSimpArgs false
/-! ### ferruleref01_TakeText: function 76 -/
def ferruleref01_TakeText.f (k : Nat) (a0 : ByteArray) : Option (ByteArray × ByteArray × Int) := (ferruleref01_TakeNum.f k a0).bind fun bt590 => (if bt590.2.2 = 0 then (if bt590.1 > 4096 then (some ((⟨#[]⟩ : ByteArray), (⟨#[]⟩ : ByteArray), 4)) else (if bt590.1 > (IntKind.u64.wrap ((bt590.2.1.size : Int))) then (some ((⟨#[]⟩ : ByteArray), (⟨#[]⟩ : ByteArray), 2)) else (if 0 ≤ bt590.1 then (if bt590.1 ≤ (bt590.2.1.size : Int) then (some (bt590.2.1.extract 0 (bt590.1 : Int).toNat, bt590.2.1.extract (bt590.1 : Int).toNat bt590.2.1.size, 0)) else (none)) else (none)))) else (some ((⟨#[]⟩ : ByteArray), (⟨#[]⟩ : ByteArray), bt590.2.2)))
end Go.Proofs.Ytfjhlcbpogihmaa.Pr
end
section
namespace Go.Proofs.Ytfjhlcbpogihmaa.Pr
open Go.RowKit Go.Proofs.YtfjhlcbpogihmaaW.PrintWords Go.Proofs.YtfjhlcbpogihmaaW.PrintLast Go.Proofs.YtfjhlcbpogihmaaW.PrintMore
set_option linter.unusedVariables false
set_option linter.unusedSimpArgs false
/-- What is taken, by both. -/
theorem take_all (a : ByteArray) : ∃ r, Ev (fun k => pack_TakeNum.f k a) r ∧ Ev (fun k => ferruleref01_TakeNum.f k a) r ∧ inU64 r.1 ∧ (r.2.2 = 0 → r.2.1.size < a.size) := by
  obtain ⟨r, h1, h2⟩ := take_both a
  refine ⟨r, Ev.of (fun k => pack_TakeNum.mono a k) h1, Ev.of (fun k => ferruleref01_TakeNum.mono a k) h2, ?_⟩
  rcases take_full a with ⟨e, he, h⟩ | ⟨n, v, hn1, hn8, hna, h, hv, _⟩
  · rw [h] at h1
    obtain rfl := Option.some.inj h1
    exact ⟨⟨Int.le_refl 0, show (0 : Int) ≤ 18446744073709551615 by decide⟩, fun h => absurd h he⟩
  · rw [h] at h1
    obtain rfl := Option.some.inj h1
    refine ⟨hv, fun _ => ?_⟩
    show (a.extract n a.size).size < a.size
    rw [ByteArray.size_extract]
    omega
end Go.Proofs.Ytfjhlcbpogihmaa.Pr
end
section
namespace Go.Proofs.Ytfjhlcbpogihmaa.Pr
open Go.RowKit Go.Proofs.YtfjhlcbpogihmaaW.PrintWords Go.Proofs.YtfjhlcbpogihmaaW.PrintLast Go.Proofs.YtfjhlcbpogihmaaW.PrintMore
theorem sumI_range (s : ByteArray) : 0 ≤ sumI s ∧ sumI s < 4294967296 := by
  have := half_range s s.size
  unfold sumI
  omega
theorem rsum_loop (s : ByteArray) (hs : s.size ≤ 4611686018427387904) : ∀ d k i, i + d = s.size → ferruleref02_Sum.l0 (k + d + 1) s (half s i).1 (half s i).2 (i : Int) = some (sumI s)
  | 0, k, i, hi => by
    show ferruleref02_Sum.l0 (k + 1) s _ _ _ = _
    have hr := half_range s i
    have hie : i = s.size := by omega
    rw [ferruleref02_Sum.l0, if_neg (by omega)]
    unfold sumI
    rw [← hie]
    congr 1
    omega
  | d + 1, k, i, hi => by
    show ferruleref02_Sum.l0 ((k + d + 1) + 1) s _ _ _ = _
    have hr := half_range s i
    have hb := bt_range s i
    have ih := rsum_loop s hs d k (i + 1) (by omega)
    simp only [half] at ih
    rw [ferruleref02_Sum.l0, if_pos (by omega), if_pos (by omega)]
    have e1 : (((half s i).1 + (bt s i % 4294967296)) % 4294967296) % 65521 = ((half s i).1 + bt s i) % 65521 := by omega
    have e2 : (((half s i).2 + ((half s i).1 + bt s i) % 65521) % 4294967296) % 65521 = ((half s i).2 + ((half s i).1 + bt s i) % 65521) % 65521 := by omega
    rw [e1, e2, wrap64_big (by omega) (by omega)]
    exact ih
theorem rsum_f (s : ByteArray) (hs : s.size ≤ 4611686018427387904) (k : Nat) (hk : s.size + 1 ≤ k) : ferruleref02_Sum.f k s = some (sumI s) := by
  have hk2 : k = (k - s.size - 1) + s.size + 1 := by omega
  unfold ferruleref02_Sum.f
  rw [hk2]
  exact rsum_loop s hs s.size (k - s.size - 1) 0 (by omega)
theorem sum_f (s : ByteArray) (hs : s.size ≤ 4611686018427387904) : seal_Sum.f s = some (sumI s) := by
  unfold seal_Sum.f
  rw [if_pos hs]
theorem up {α : Type} (f : Nat → Option α) (hm : ∀ k, LeO (f k) (f (k + 1))) {k n : Nat} {r : α} (h : f k = some r) (hkn : k ≤ n) : f n = some r := by
  obtain ⟨d, rfl⟩ := Nat.exists_eq_add_of_le hkn
  clear hkn
  induction d with
  | zero => exact h
  | succ d ih => exact hm _ _ ih
end Go.Proofs.Ytfjhlcbpogihmaa.Pr
end
section
namespace Go.Proofs.Ytfjhlcbpogihmaa.Pr
open Go.RowKit Go.Proofs.YtfjhlcbpogihmaaW.PrintWords Go.Proofs.YtfjhlcbpogihmaaW.PrintLast Go.Proofs.YtfjhlcbpogihmaaW.PrintMore
attribute [local go_sem] max2_int min2_int max_two min_two max_three min_three max_four min_four
set_option linter.unusedVariables false
set_option linter.unusedSimpArgs false
/-! ### ferruleref02_Put: function 63 -/
def ferruleref02_Put.f (k : Nat) (a0 : ByteArray) : Option (ByteArray × Int) := if (a0.size : Int) > 65536 then (some ((⟨#[]⟩ : ByteArray), 4)) else ((ferruleref01_Num.f k (a0.size : Int)).bind fun bt410 => (if bt410.1.size + a0.size ≤ 9223372036854775807 then ((ferruleref02_Sum.f k (bt410.1 ++ a0)).bind fun t412 => ((ferruleref02_four.f t412).bind fun t413 => (if (bt410.1 ++ a0).size + t413.size ≤ 9223372036854775807 then (some ((bt410.1 ++ a0) ++ t413, 0)) else (none)))) else (none)))
end Go.Proofs.Ytfjhlcbpogihmaa.Pr
end
section
namespace Go.Proofs.Ytfjhlcbpogihmaa.Pr
open Go.RowKit Go.Proofs.YtfjhlcbpogihmaaW.PrintWords Go.Proofs.YtfjhlcbpogihmaaW.PrintLast Go.Proofs.YtfjhlcbpogihmaaW.PrintMore
/-- A sum's bytes. -/
def tailB (v : Int) : ByteArray := strOfNums [(v / 16777216) % 256, (v / 65536) % 256, (v / 256) % 256, v % 256]
theorem tail_f (v : Int) : seal_tail.f v = some (tailB v) := rfl
theorem tailB_size (v : Int) : (tailB v).size = 4 := strOfNums_size _
theorem four_f {v : Int} (h0 : 0 ≤ v) : ferruleref02_four.f v = some (tailB v) := by
  unfold ferruleref02_four.f tailB
  rw [Int.tdiv_eq_ediv_of_nonneg h0, Int.tdiv_eq_ediv_of_nonneg h0, Int.tdiv_eq_ediv_of_nonneg h0, Int.tmod_eq_emod_of_nonneg h0]
  have e1 : (v / 16777216 % 4294967296) % 256 = v / 16777216 % 256 := by omega
  have e2 : (v / 65536 % 4294967296) % 256 = v / 65536 % 256 := by omega
  have e3 : (v / 256 % 4294967296) % 256 = v / 256 % 256 := by omega
  have e4 : (v % 256) % 256 = v % 256 := by omega
  rw [e1, e2, e3, e4]
/-- What stands ahead of the sum. -/
def headB (a : ByteArray) : ByteArray := strOfNums (numL (a.size : Int)) ++ a
theorem headB_size (a : ByteArray) : ((headB a).size : Int) = sizeI (a.size : Int) + a.size := by
  unfold headB
  rw [ByteArray.size_append]
  have := size_num (a.size : Int)
  omega
end Go.Proofs.Ytfjhlcbpogihmaa.Pr
end
section
namespace Go.Proofs.Ytfjhlcbpogihmaa.Pr
open Go.RowKit Go.Proofs.YtfjhlcbpogihmaaW.PrintWords Go.Proofs.YtfjhlcbpogihmaaW.PrintLast Go.Proofs.YtfjhlcbpogihmaaW.PrintMore
attribute [local go_sem] max2_int min2_int max_two min_two max_three min_three max_four min_four
set_option linter.unusedVariables false
set_option linter.unusedSimpArgs false
/-! ### note_Bytes: function 18 -/
def note_Bytes.f (k : Nat) (a0_0 : Int) (a0_1 : Int) (a0_2 : Int) (a0_3 : Int) (a0_4 : ByteArray) : Option (ByteArray × Int) := (note_may.f k a0_0 a0_1 a0_2 a0_3 a0_4).bind fun t162 => (if t162 = true then ((pack_Nums.f (([a0_1, a0_2, a0_3] : List Int))).bind fun bt166 => ((some (([(a0_0) % 256] : List Int) : List Int)).bind fun y168 => (if (strOfNums y168).size + bt166.1.size ≤ 9223372036854775807 then (if ((strOfNums y168) ++ bt166.1).size + a0_4.size ≤ 9223372036854775807 then ((seal_Put.f (((strOfNums y168) ++ bt166.1) ++ a0_4)).bind fun bt171 => (some (bt171.1, bt171.2))) else (none)) else (none)))) else (some ((⟨#[]⟩ : ByteArray), 1)))
end Go.Proofs.Ytfjhlcbpogihmaa.Pr
end
section
namespace Go.Proofs.Ytfjhlcbpogihmaa.Pr
open Go.RowKit Go.Proofs.YtfjhlcbpogihmaaW.PrintWords Go.Proofs.YtfjhlcbpogihmaaW.PrintLast Go.Proofs.YtfjhlcbpogihmaaW.PrintMore
attribute [local go_sem] max2_int min2_int max_two min_two max_three min_three max_four min_four
set_option linter.unusedVariables false
set_option linter.unusedSimpArgs false
/-! ### note_May: function 29 -/
mutual
def note_May.j0 : Nat → Bool → Int → Int → Int → Int → ByteArray → List (S75) → Int → Int → ByteArray → List (S75) → Option (Bool)
  | 0, _, _, _, _, _, _, _, _, _, _, _ => none
  | k + 1, x43, x311000, x311001, x311002, x311003, x311004, x311005, x312000, x312001, x312002, x312003 => if x43 = true then (some false) else (if x312000 = 0 then (if x312001 = 0 then (note_May.j1 k (x312002.toList != ([] : List UInt8)) x311000 x311001 x311002 x311003 x311004 x311005 x312000 x312001 x312002 x312003) else (note_May.j1 k true x311000 x311001 x311002 x311003 x311004 x311005 x312000 x312001 x312002 x312003)) else (note_May.j1 k false x311000 x311001 x311002 x311003 x311004 x311005 x312000 x312001 x312002 x312003))
def note_May.j1 : Nat → Bool → Int → Int → Int → Int → ByteArray → List (S75) → Int → Int → ByteArray → List (S75) → Option (Bool)
  | 0, _, _, _, _, _, _, _, _, _, _, _ => none
  | k + 1, x56, x311000, x311001, x311002, x311003, x311004, x311005, x312000, x312001, x312002, x312003 => if x56 = true then (some false) else (note_May.l0 k x312001 x312003 (x312003.length : Int) 0 x311000 x311001 x311002 x311003 x311004 x311005)
def note_May.l0 : Nat → Int → List (S75) → Int → Int → Int → Int → Int → Int → ByteArray → List (S75) → Option (Bool)
  | 0, _, _, _, _, _, _, _, _, _, _ => none
  | k + 1, x4, x60, x61, x62, x311000, x311001, x311002, x311003, x311004, x311005 => if x62 < x61 then (if 0 ≤ x62 then (if x62 < (x60.length : Int) then (if ((rd_T75 x60 x62).f0) < x4 then (some false) else (if ((rd_T75 x60 x62).f0) > x311000 then (some false) else (if (((rd_T75 x60 x62).f1).size : Int) > 4096 then (some false) else (note_May.l0 k ((rd_T75 x60 x62).f0) x60 x61 (wrap64 (x62 + 1)) x311000 x311001 x311002 x311003 x311004 x311005)))) else (none)) else (none)) else (some true)
end
def note_May.f (k : Nat) (a0_0 : Int) (a0_1 : Int) (a0_2 : Int) (a0_3 : Int) (a0_4 : ByteArray) (l0_5 : List (S75)) : Option (Bool) := if (mx a0_0 a0_1) > 4611686018427387903 then (note_May.j0 k true a0_0 a0_1 a0_2 a0_3 a0_4 l0_5 a0_2 a0_3 a0_4 l0_5) else (if a0_2 > 1099511627776 then (note_May.j0 k true a0_0 a0_1 a0_2 a0_3 a0_4 l0_5 a0_2 a0_3 a0_4 l0_5) else (if (l0_5.length : Int) > 1024 then (note_May.j0 k true a0_0 a0_1 a0_2 a0_3 a0_4 l0_5 a0_2 a0_3 a0_4 l0_5) else ((note_last.f a0_2 a0_3 a0_4 l0_5).bind fun t312 => (if t312 > 1099511627776 then (note_May.j0 k true a0_0 a0_1 a0_2 a0_3 a0_4 l0_5 a0_2 a0_3 a0_4 l0_5) else (if (a0_4.size : Int) > 4096 then (note_May.j0 k true a0_0 a0_1 a0_2 a0_3 a0_4 l0_5 a0_2 a0_3 a0_4 l0_5) else (note_May.j0 k (decide (a0_3 > a0_0)) a0_0 a0_1 a0_2 a0_3 a0_4 l0_5 a0_2 a0_3 a0_4 l0_5))))))
namespace Sh25
end Sh25
open Sh25
end Go.Proofs.Ytfjhlcbpogihmaa.Pr
end
section
namespace Go.Proofs.Ytfjhlcbpogihmaa.Pr
open Go.RowKit Go.Proofs.YtfjhlcbpogihmaaW.PrintWords Go.Proofs.YtfjhlcbpogihmaaW.PrintLast Go.Proofs.YtfjhlcbpogihmaaW.PrintMore
attribute [local go_sem] max2_int min2_int max_two min_two max_three min_three max_four min_four
set_option linter.unusedVariables false
set_option linter.unusedSimpArgs false
/-! ### note_Least: function 26 -/
mutual
def note_Least.j0 : Nat → List (S39) → Int → Int → Int → Int → ByteArray → List (S75) → Option ((List (S39)) × Int)
  | 0, _, _, _, _, _, _, _ => none
  | k + 1, x4, x316000, x316001, x316002, x316003, x316004, x316005 => note_Least.l0 k x4 x316005 (x316005.length : Int) 0 x316000 x316001 x316002 x316003 x316004 x316005
def note_Least.l0 : Nat → List (S39) → List (S75) → Int → Int → Int → Int → Int → Int → ByteArray → List (S75) → Option ((List (S39)) × Int)
  | 0, _, _, _, _, _, _, _, _, _, _ => none
  | k + 1, x4, x35, x36, x37, x316000, x316001, x316002, x316003, x316004, x316005 => if x37 < x36 then (if 0 ≤ x37 then (if x37 < (x35.length : Int) then (if x4.length < 2932031007402 then (note_Least.l0 k (x4 ++ [(⟨2, IntKind.u64.wrap ((IntKind.u64.wrap (x316002 + (IntKind.u64.wrap (x37)))) + 1), (rd_T75 x35 x37).f0, 0, (rd_T75 x35 x37).f1⟩ : S39)]) x35 x36 (wrap64 (x37 + 1)) x316000 x316001 x316002 x316003 x316004 x316005) else (none)) else (none)) else (none)) else (some (x4, 0))
end
def note_Least.f (k : Nat) (a0_0 : Int) (a0_1 : Int) (a0_2 : Int) (a0_3 : Int) (a0_4 : ByteArray) (l0_5 : List (S75)) : Option ((List (S39)) × Int) := (note_May.f k a0_0 a0_1 a0_2 a0_3 a0_4 l0_5).bind fun t316 => (if t316 = true then ((some (([(⟨1, 0, a0_0, a0_1, (⟨#[]⟩ : ByteArray)⟩ : S39)] : List (S39)) : List (S39))).bind fun y317 => (if a0_2 > 0 then (if y317.length < 2932031007402 then (note_Least.j0 k (y317 ++ [(⟨4, a0_2, a0_3, 0, a0_4⟩ : S39)]) a0_0 a0_1 a0_2 a0_3 a0_4 l0_5) else (none)) else (note_Least.j0 k y317 a0_0 a0_1 a0_2 a0_3 a0_4 l0_5))) else (some (([] : List (S39)), 1)))
namespace Sh26
end Sh26
open Sh26
end Go.Proofs.Ytfjhlcbpogihmaa.Pr
end
section
namespace Go.Proofs.Ytfjhlcbpogihmaa.Pr
open Go.RowKit Go.Proofs.YtfjhlcbpogihmaaW.PrintWords Go.Proofs.YtfjhlcbpogihmaaW.PrintLast Go.Proofs.YtfjhlcbpogihmaaW.PrintMore
attribute [local go_sem] max2_int min2_int max_two min_two max_three min_three max_four min_four
set_option linter.unusedVariables false
set_option linter.unusedSimpArgs false
theorem eqA75 (d : Nat) (w : World) (x0 y0 : Int) (x1 y1 : ByteArray) :
    (Op.equalIn (d + 2) 75 (.agg #[.int .u64 x0, .string x1]) (.agg #[.int .u64 y0, .string y1])).run Try.prog w = .ok (x0 == y0 && (x1.toList == y1.toList)) w := by
  refine eqA_of Try.underlying75 (by kernel_rfl) ?_
  refine eqf_cons (by rfl) (by go_simp; rfl) (by go_simp; rfl) (by go_simp) ?_
  exact eqf_last (by rfl) (by go_simp; rfl) (by go_simp; rfl) (by go_simp)
end Go.Proofs.Ytfjhlcbpogihmaa.Pr
end
section
namespace Go.Proofs.Ytfjhlcbpogihmaa.Pr
open Go.RowKit Go.Proofs.YtfjhlcbpogihmaaW.PrintWords Go.Proofs.YtfjhlcbpogihmaaW.PrintLast Go.Proofs.YtfjhlcbpogihmaaW.PrintMore
attribute [local go_sem] max2_int min2_int max_two min_two max_three min_three max_four min_four
set_option linter.unusedVariables false
set_option linter.unusedSimpArgs false
attribute [local go_sem high] eqA75
/-! ### ferruleref04_SameLog: function 41 -/
mutual
def ferruleref04_SameLog.j0 : Nat → Bool → Int → Int → ByteArray → List (S75) → Int → Int → ByteArray → List (S75) → Option (Bool)
  | 0, _, _, _, _, _, _, _, _, _ => none
  | k + 1, x33, x127000, x127001, x127002, x127003, x128000, x128001, x128002, x128003 => if x33 = true then (some false) else (ferruleref04_SameLog.l0 k 0 x127000 x127001 x127002 x127003 x128000 x128001 x128002 x128003)
def ferruleref04_SameLog.l0 : Nat → Int → Int → Int → ByteArray → List (S75) → Int → Int → ByteArray → List (S75) → Option (Bool)
  | 0, _, _, _, _, _, _, _, _, _ => none
  | k + 1, x5, x127000, x127001, x127002, x127003, x128000, x128001, x128002, x128003 => if x5 < (x127003.length : Int) then (if 0 ≤ x5 then (if x5 < (x128003.length : Int) then (if (!(((rd_T75 x127003 x5).f0) == ((rd_T75 x128003 x5).f0)) || (!((((rd_T75 x127003 x5).f1).toList) == (((rd_T75 x128003 x5).f1).toList)))) = true then (some false) else (ferruleref04_SameLog.l0 k (wrap64 (x5 + 1)) x127000 x127001 x127002 x127003 x128000 x128001 x128002 x128003)) else (none)) else (none)) else (some true)
end
def ferruleref04_SameLog.f (k : Nat) (a0_0 : Int) (a0_1 : Int) (a0_2 : ByteArray) (l0_3 : List (S75)) (a1_0 : Int) (a1_1 : Int) (a1_2 : ByteArray) (l1_3 : List (S75)) : Option (Bool) := if a0_0 = a1_0 then (if a0_1 = a1_1 then (if a0_2.toList = a1_2.toList then (ferruleref04_SameLog.j0 k ((l0_3.length : Int) != (l1_3.length : Int)) a0_0 a0_1 a0_2 l0_3 a1_0 a1_1 a1_2 l1_3) else (ferruleref04_SameLog.j0 k true a0_0 a0_1 a0_2 l0_3 a1_0 a1_1 a1_2 l1_3)) else (ferruleref04_SameLog.j0 k true a0_0 a0_1 a0_2 l0_3 a1_0 a1_1 a1_2 l1_3)) else (ferruleref04_SameLog.j0 k true a0_0 a0_1 a0_2 l0_3 a1_0 a1_1 a1_2 l1_3)
namespace Sh7
end Sh7
open Sh7
end Go.Proofs.Ytfjhlcbpogihmaa.Pr
end
section
namespace Go.Proofs.Ytfjhlcbpogihmaa.Pr
open Go.RowKit Go.Proofs.YtfjhlcbpogihmaaW.PrintWords Go.Proofs.YtfjhlcbpogihmaaW.PrintLast Go.Proofs.YtfjhlcbpogihmaaW.PrintMore
attribute [local go_sem] max2_int min2_int max_two min_two max_three min_three max_four min_four
set_option linter.unusedVariables false
set_option linter.unusedSimpArgs false
/-! ### ferruleref04_Same: function 15 -/
def ferruleref04_Same.f (k : Nat) (a0_0 : Int) (a0_1 : Int) (a0_2 : Int) (a0_3 : Int) (a0_4 : ByteArray) (l0_5 : List (S75)) (a1_0 : Int) (a1_1 : Int) (a1_2 : Int) (a1_3 : Int) (a1_4 : ByteArray) (l1_5 : List (S75)) : Option (Bool) := (ferruleref04_SameLog.f k a0_2 a0_3 a0_4 l0_5 a1_2 a1_3 a1_4 l1_5).bind fun t132 => (if t132 = true then (if a0_0 = a1_0 then (some (a0_1 == a1_1)) else (some false)) else (some false))
namespace Sh8
end Sh8
open Sh8
/-! ### ferruleref04_Last: function 54 -/
def ferruleref04_Last.f (a0_0 : Int) (a0_1 : Int) (a0_2 : ByteArray) (l0_3 : List (S75)) : Option (Int) := some (IntKind.u64.wrap (a0_0 + (IntKind.u64.wrap ((l0_3.length : Int)))))
end Go.Proofs.Ytfjhlcbpogihmaa.Pr
end
section
namespace Go.Proofs.Ytfjhlcbpogihmaa.Pr
open Go.RowKit Go.Proofs.YtfjhlcbpogihmaaW.PrintWords Go.Proofs.YtfjhlcbpogihmaaW.PrintLast Go.Proofs.YtfjhlcbpogihmaaW.PrintMore
attribute [local go_sem] max2_int min2_int max_two min_two max_three min_three max_four min_four
set_option linter.unusedVariables false
set_option linter.unusedSimpArgs false
/-! ### ferruleref04_May: function 25 -/
mutual
def ferruleref04_May.j0 : Nat → Bool → Int → Int → Int → Int → ByteArray → List (S75) → Int → Int → ByteArray → List (S75) → Option (Bool)
  | 0, _, _, _, _, _, _, _, _, _, _, _ => none
  | k + 1, x44, x305000, x305001, x305002, x305003, x305004, x305005, x306000, x306001, x306002, x306003 => if x44 = true then (some false) else (if x306000 = 0 then (if x306001 > 0 then (ferruleref04_May.j1 k true x305000 x305001 x305002 x305003 x305004 x305005 x306000 x306001 x306002 x306003) else (ferruleref04_May.j1 k (decide ((x306002.size : Int) > 0)) x305000 x305001 x305002 x305003 x305004 x305005 x306000 x306001 x306002 x306003)) else (ferruleref04_May.j1 k false x305000 x305001 x305002 x305003 x305004 x305005 x306000 x306001 x306002 x306003))
def ferruleref04_May.j1 : Nat → Bool → Int → Int → Int → Int → ByteArray → List (S75) → Int → Int → ByteArray → List (S75) → Option (Bool)
  | 0, _, _, _, _, _, _, _, _, _, _, _ => none
  | k + 1, x63, x305000, x305001, x305002, x305003, x305004, x305005, x306000, x306001, x306002, x306003 => if x63 = true then (some false) else (ferruleref04_May.l0 k 0 x305000 x305001 x305002 x305003 x305004 x305005 x306000 x306001 x306002 x306003)
def ferruleref04_May.l0 : Nat → Int → Int → Int → Int → Int → ByteArray → List (S75) → Int → Int → ByteArray → List (S75) → Option (Bool)
  | 0, _, _, _, _, _, _, _, _, _, _, _ => none
  | k + 1, x4, x305000, x305001, x305002, x305003, x305004, x305005, x306000, x306001, x306002, x306003 => if x4 < (x306003.length : Int) then (if 0 ≤ x4 then (if ((rd_T75 x306003 x4).f0) > x305000 then (some false) else (if ((rd_T75 x306003 x4).f0) < x306001 then (some false) else (if x4 > 0 then (if 0 ≤ (wrap64 (x4 - 1)) then (if (wrap64 (x4 - 1)) < (x306003.length : Int) then (if ((rd_T75 x306003 x4).f0) < ((rd_T75 x306003 (wrap64 (x4 - 1))).f0) then (some false) else (if (((rd_T75 x306003 x4).f1).size : Int) > 4096 then (some false) else (ferruleref04_May.l0 k (wrap64 (x4 + 1)) x305000 x305001 x305002 x305003 x305004 x305005 x306000 x306001 x306002 x306003))) else (none)) else (none)) else (if (((rd_T75 x306003 x4).f1).size : Int) > 4096 then (some false) else (ferruleref04_May.l0 k (wrap64 (x4 + 1)) x305000 x305001 x305002 x305003 x305004 x305005 x306000 x306001 x306002 x306003))))) else (none)) else (some true)
end
def ferruleref04_May.f (k : Nat) (a0_0 : Int) (a0_1 : Int) (a0_2 : Int) (a0_3 : Int) (a0_4 : ByteArray) (l0_5 : List (S75)) : Option (Bool) := if a0_0 > 4611686018427387903 then (ferruleref04_May.j0 k true a0_0 a0_1 a0_2 a0_3 a0_4 l0_5 a0_2 a0_3 a0_4 l0_5) else (if a0_1 > 4611686018427387903 then (ferruleref04_May.j0 k true a0_0 a0_1 a0_2 a0_3 a0_4 l0_5 a0_2 a0_3 a0_4 l0_5) else (if a0_2 > 1099511627776 then (ferruleref04_May.j0 k true a0_0 a0_1 a0_2 a0_3 a0_4 l0_5 a0_2 a0_3 a0_4 l0_5) else (if (l0_5.length : Int) > 1024 then (ferruleref04_May.j0 k true a0_0 a0_1 a0_2 a0_3 a0_4 l0_5 a0_2 a0_3 a0_4 l0_5) else ((ferruleref04_Last.f a0_2 a0_3 a0_4 l0_5).bind fun t306 => (if t306 > 1099511627776 then (ferruleref04_May.j0 k true a0_0 a0_1 a0_2 a0_3 a0_4 l0_5 a0_2 a0_3 a0_4 l0_5) else (if (a0_4.size : Int) > 4096 then (ferruleref04_May.j0 k true a0_0 a0_1 a0_2 a0_3 a0_4 l0_5 a0_2 a0_3 a0_4 l0_5) else (ferruleref04_May.j0 k (decide (a0_3 > a0_0)) a0_0 a0_1 a0_2 a0_3 a0_4 l0_5 a0_2 a0_3 a0_4 l0_5)))))))
namespace Sh24
end Sh24
open Sh24
end Go.Proofs.Ytfjhlcbpogihmaa.Pr
end
section
namespace Go.Proofs.Ytfjhlcbpogihmaa.Pr
open Go.RowKit Go.Proofs.YtfjhlcbpogihmaaW.PrintWords Go.Proofs.YtfjhlcbpogihmaaW.PrintLast Go.Proofs.YtfjhlcbpogihmaaW.PrintMore
attribute [local go_sem] max2_int min2_int max_two min_two max_three min_three max_four min_four
set_option linter.unusedVariables false
set_option linter.unusedSimpArgs false
/-! ### ferruleref04_Least: function 28 -/
mutual
def ferruleref04_Least.j0 : Nat → List (S39) → Int → Int → Int → Int → ByteArray → List (S75) → Option ((List (S39)) × Int)
  | 0, _, _, _, _, _, _, _ => none
  | k + 1, x5, x367000, x367001, x367002, x367003, x367004, x367005 => ferruleref04_Least.l0 k x5 0 x367000 x367001 x367002 x367003 x367004 x367005
def ferruleref04_Least.l0 : Nat → List (S39) → Int → Int → Int → Int → Int → ByteArray → List (S75) → Option ((List (S39)) × Int)
  | 0, _, _, _, _, _, _, _, _ => none
  | k + 1, x5, x6, x367000, x367001, x367002, x367003, x367004, x367005 => if x6 < (x367005.length : Int) then (if 0 ≤ x6 then (if x5.length < 2932031007402 then (ferruleref04_Least.l0 k (x5 ++ [(⟨2, IntKind.u64.wrap ((IntKind.u64.wrap (x367002 + (IntKind.u64.wrap (x6)))) + 1), (rd_T75 x367005 x6).f0, 0, (rd_T75 x367005 x6).f1⟩ : S39)]) (wrap64 (x6 + 1)) x367000 x367001 x367002 x367003 x367004 x367005) else (none)) else (none)) else (some (x5, 0))
end
def ferruleref04_Least.f (k : Nat) (a0_0 : Int) (a0_1 : Int) (a0_2 : Int) (a0_3 : Int) (a0_4 : ByteArray) (l0_5 : List (S75)) : Option ((List (S39)) × Int) := (ferruleref04_May.f k a0_0 a0_1 a0_2 a0_3 a0_4 l0_5).bind fun t367 => (if t367 = true then ((some (([(⟨1, 0, a0_0, a0_1, (⟨#[]⟩ : ByteArray)⟩ : S39)] : List (S39)) : List (S39))).bind fun y368 => (if a0_2 > 0 then (if y368.length < 2932031007402 then (ferruleref04_Least.j0 k (y368 ++ [(⟨4, a0_2, a0_3, 0, a0_4⟩ : S39)]) a0_0 a0_1 a0_2 a0_3 a0_4 l0_5) else (none)) else (ferruleref04_Least.j0 k y368 a0_0 a0_1 a0_2 a0_3 a0_4 l0_5))) else (some (([] : List (S39)), 1)))
namespace Sh28
end Sh28
open Sh28
end Go.Proofs.Ytfjhlcbpogihmaa.Pr
end
section
namespace Go.Proofs.Ytfjhlcbpogihmaa.Pr
open Go.RowKit Go.Proofs.YtfjhlcbpogihmaaW.PrintWords Go.Proofs.YtfjhlcbpogihmaaW.PrintLast Go.Proofs.YtfjhlcbpogihmaaW.PrintMore
set_option linter.unusedVariables false
set_option linter.unusedSimpArgs false
theorem wi3 {x : Int} (h0 : -9223372036854775808 ≤ x) (h1 : x < 9223372036854775808) : wrap64 x = x := by
  simp [wrap64]
  omega
theorem notes_l (l : List S39) (hl : l.length ≤ 4611686018427387904) : ∀ (d i k : Nat), l.length - i = d → i ≤ l.length → d < k → ferruleref04_Notes.l0 k l l (i : Int) = some true
  | 0, i, k, hd, hi, hk => by
    obtain ⟨k, rfl⟩ : ∃ j, k = j + 1 := ⟨k - 1, by omega⟩
    simp only [ferruleref04_Notes.l0]
    rw [if_neg (by omega)]
  | d + 1, i, k, hd, hi, hk => by
    obtain ⟨k, rfl⟩ : ∃ j, k = j + 1 := ⟨k - 1, by omega⟩
    simp only [ferruleref04_Notes.l0]
    rw [if_pos (by omega), if_pos (by omega), if_pos (by omega)]
    simp only [BEq.rfl, Bool.not_true, Bool.or_self]
    rw [if_neg (by decide), wi3 (x := (i : Int) + 1) (by omega) (by omega), show ((i : Int) + 1) = ((i + 1 : Nat) : Int) by omega]
    exact notes_l l hl d (i + 1) k (by omega) (by omega) (by omega)
theorem notes_self (l : List S39) (hl : l.length ≤ 4611686018427387904) (k : Nat) (hk : l.length < k) : ferruleref04_Notes.f k l l = some true := by
  unfold ferruleref04_Notes.f
  rw [if_pos rfl, show (0 : Int) = ((0 : Nat) : Int) from rfl]
  exact notes_l l hl l.length 0 k (by omega) (by omega) hk
end Go.Proofs.Ytfjhlcbpogihmaa.Pr
end
