/- Several texts of one depth, laid together. Conditions: none. -/
import Derived.Test.YtfjhlcbpogihmaaProg
import Derived.Below
import Derived.Deep.Draws
import Derived.Deep.AppendLies
import Derived.Maps.AppendAt
import Derived.OwnWalk
import Derived.Laws.BytesArg
import Derived.Laws.MakeOwn
import Derived.Laws.OwnMore
import Derived.Deep.OwnRows
import Derived.Tactics
import Derived.Lib.ConvBytes
import Derived.Laws.Slices
import Derived.WalkKit
import Derived.KernelRfl
import Derived.RowKit3
import Derived.Deep.LoopGhost
import Derived.Deep.QuietTactic
import Derived.BigQuiet
import Derived.WideLaws
import Derived.Deep.DeepCutAuto
import Derived.Deep.CutBlock
import Derived.Deep.RegionHeld3
import Derived.Laws.Rows
import Derived.Lib.AppendStr
import Derived.ArgAppend
import Derived.Laws.IdiomCopy
import Derived.OrdersHeld
import Derived.Laws.BitsLemmas
import Derived.RowKit
import Derived.Test.YtfjhlcbpogihmaaGPostBackWWords
import Derived.Test.YtfjhlcbpogihmaaGPostBackWLast
import Derived.Test.YtfjhlcbpogihmaaVPostBack1
import Derived.WalkLawsBesides
import Derived.RegionTactic
import Derived.ChangeAlike
import Derived.BigRegion
import Derived.Outline
import Derived.MapKept
import Derived.Deep.RegionWith
import Derived.Laws.CopyOwn
import Derived.Shelf.RegionOpenPlain
import Derived.Lib.Strings
import Derived.Lib.Slices
import Derived.Lib.Walk
import Derived.Lib.Builder
import Derived.Lib.UnsafeStr
import Derived.Laws.Externs
import Derived.Laws.Tables
import Derived.Deep.Slices
import Derived.Lib.SmallJoins
import Derived.ProofKit
import Derived.SizedLaws
import Derived.Laws.Bits64
import Derived.Lib.FrozenHead
import Derived.Laws.IdiomStrings
namespace Go.Proofs.Ytfjhlcbpogihmaa.Pr
open Go.RowKit Go.Proofs.YtfjhlcbpogihmaaW.PrintWords Go.Proofs.YtfjhlcbpogihmaaW.PrintLast Go.Proofs.YtfjhlcbpogihmaaW.PrintMore
attribute [local go_sem] max2_int max_four
set_option linter.unusedVariables false
set_option linter.unusedSimpArgs false
def errW : Option Int → Value
  | none => .nilIface
  | some c => .iface 0 (.int .i64 c)
theorem errW_none : errW none = .nilIface := rfl
theorem errW_some (c : Int) : errW (some c) = .iface 0 (.int .i64 c) := rfl
theorem info75 : (Try.prog.info? 75).map (fun i => (i.zero, i.size, i.bytes)) = some (some (.agg #[(.int .u64 0), (.string ⟨#[]⟩)]), 2, 24) := by kernel_rfl
-- the values' own types
/-! #### struct type 75 -/
structure S75 where
  f0 : Int
  f1 : ByteArray
def z75 : S75 := ⟨(0 : Int), (⟨#[]⟩ : ByteArray)⟩
def k75 : Kd S75 := Kd.iso (Kd.pair (Kd.int .u64) Kd.string) (fun x : S75 => (x.f0, x.f1))
theorem k75_open {w : World} {x : S75} {cs : List Value} (h : k75.K w x cs) : cs = [.int .u64 x.f0, .string x.f1] := by
  obtain ⟨_, _, rfl, rfl, rfl⟩ := h
  exact rfl
theorem k75_mkM (w : World) (base : Nat) (ok : Nat → Prop) (x : S75)  : k75.M w base ok x [.int .u64 x.f0, .string x.f1] := ⟨[.int .u64 x.f0], [.string x.f1], rfl, rfl, rfl⟩
def rd_T75 (xs : List S75) (i : Int) : S75 := xs.getD i.toNat z75
theorem at_T75 {w : World} {A : Option Addr} {n : Nat} {xs : List S75} (h : Kd.C k75 w A n xs) (i : Int) (h0 : 0 ≤ i) (h1 : i < n) : ∃ ad , A = some ad ∧ w.cell? (ad.add (i.toNat * 2)) = some (.int .u64 (rd_T75 xs i).f0) ∧ w.cell? ⟨(ad.add (i.toNat * 2)).block, (ad.add (i.toNat * 2)).off + 1, none⟩ = some (.string (rd_T75 xs i).f1) := by
  obtain ⟨ad, c, e, _, hK, hc0⟩ := Kd.C_get h z75 i h0 h1
  have hc : ∀ j u, c[j]? = some u → w.cell? (ad.add (i.toNat * 2 + j)) = some u := hc0
  obtain rfl := k75_open hK
  exact ⟨ad, e, hc 0 _ rfl, by rw [← add_field _ _ 1 (by omega)]; exact hc 1 _ rfl⟩
/-! #### struct type 39 -/
structure S39 where
  f0 : Int
  f1 : Int
  f2 : Int
  f3 : Int
  f4 : ByteArray
/-! #### struct type 28 -/
structure S28 where
  f0 : Int
  f1 : Int
  f2 : ByteArray
  f3 : (List S75)
/-! #### struct type 30 -/
structure S30 where
  f0 : Int
  f1 : Int
  f2 : S28
/-! #### struct type 34 -/
structure S34 where
  f0 : ByteArray
  f1 : ByteArray
  f2 : Int
  f3 : Bool
/-! #### struct type 57 -/
structure S57 where
  f0 : Int
  f1 : Int
  f2 : Int
  f3 : Int
  f4 : Int
  f5 : Int
  f6 : Int
  f7 : Bool
  f8 : (List S75)
  f9 : ByteArray
def k57 : Kd S57 := Kd.iso (Kd.pair (Kd.int .i64) (Kd.pair (Kd.int .u64) (Kd.pair (Kd.int .u64) (Kd.pair (Kd.int .u64) (Kd.pair (Kd.int .u64) (Kd.pair (Kd.int .u64) (Kd.pair (Kd.int .u64) (Kd.pair Kd.bool (Kd.pair (Kd.slice 75 k75) Kd.string))))))))) (fun x : S57 => (x.f0, x.f1, x.f2, x.f3, x.f4, x.f5, x.f6, x.f7, x.f8, x.f9))
theorem k57_open {w : World} {x : S57} {cs : List Value} (h : k57.K w x cs) : ∃ A8 c8, cs = [.int .i64 x.f0, .int .u64 x.f1, .int .u64 x.f2, .int .u64 x.f3, .int .u64 x.f4, .int .u64 x.f5, .int .u64 x.f6, .bool x.f7, .slice A8 x.f8.length c8, .string x.f9] ∧ x.f8.length ≤ c8 ∧ k75.C w A8 x.f8.length x.f8 := by
  obtain ⟨_, _, rfl, rfl, ⟨_, _, rfl, rfl, ⟨_, _, rfl, rfl, ⟨_, _, rfl, rfl, ⟨_, _, rfl, rfl, ⟨_, _, rfl, rfl, ⟨_, _, rfl, rfl, ⟨_, _, rfl, rfl, ⟨_, _, rfl, ⟨A8, c8, rfl, l8, g8⟩, rfl⟩⟩⟩⟩⟩⟩⟩⟩⟩ := h
  exact ⟨A8, c8, rfl, l8, g8⟩
end Go.Proofs.Ytfjhlcbpogihmaa.Pr
namespace Go.Proofs.Ytfjhlcbpogihmaa.Hnd
open Go.RowKit Go.Proofs.YtfjhlcbpogihmaaW.PrintWords
theorem below_call {w W w2 : World} (h : Below w.heap.size w W) (hb : Below W.heap.size W w2) : Below w.heap.size w w2 := h.trans (hb.mono h.size)
end Go.Proofs.Ytfjhlcbpogihmaa.Hnd
namespace Go.Proofs.Ytfjhlcbpogihmaa.Pr
open Go.RowKit Go.Proofs.YtfjhlcbpogihmaaW.PrintWords Go.Proofs.YtfjhlcbpogihmaaW.PrintLast Go.Proofs.YtfjhlcbpogihmaaW.PrintMore
open Go.Proofs.Ytfjhlcbpogihmaa.Hnd
set_option linter.unusedVariables false
set_option linter.unusedSimpArgs false
/-- The place of the first of which p holds; -1: there is none. -/
def idxN (p : S75 → Bool) : List S75 → Nat → Int
  | [], _ => -1
  | x :: r, i => if p x = true then (i : Int) else idxN p r (i + 1)
theorem rd_at (l : List S75) (i : Nat) (h : i < l.length) : rd_T75 l (i : Int) = l[i] := by simp [rd_T75, List.getD_eq_getElem?_getD, h]
theorem idxN_at (p : S75 → Bool) (l : List S75) (i : Nat) (h : i < l.length) : idxN p (l.drop i) i = if p (rd_T75 l (i : Int)) = true then (i : Int) else idxN p (l.drop (i + 1)) (i + 1) := by
  rw [List.drop_eq_getElem_cons h, rd_at l i h]
  rfl
theorem rd_mem (l : List S75) (i : Nat) (h : i < l.length) : rd_T75 l (i : Int) ∈ l := by
  rw [rd_at l i h]
  exact List.getElem_mem _
set_option maxHeartbeats 1000000 in
set_option maxRecDepth 100000 in
theorem idx_65 (A : Option Addr) (c : Nat) (l : List S75) (p : S75 → Bool) (J : World → Prop) (w : World) (hr : Kd.C k75 w A l.length l) (hc : l.length ≤ c) (hJ : J w)
    (HJ : ∀ W W' : World, J W → Below W.heap.size W W' → J W') (HP : ∀ (x : S75) (W : World), x ∈ l → J W → Calls Try.prog 65 #[.agg #[.int .u64 x.f0, .string x.f1]] W fun e w' => e = .returned (.bool (p x)) ∧ Below W.heap.size W w') :
    Calls Try.prog 90 #[.slice A l.length c, .func (.func 65) #[] #[]] w fun e w' => e = .returned (.int .i64 (idxN p l 0)) ∧ Below w.heap.size w w' ∧ J w' := by
  have HR := Aside0.mk hr
  have HL : l.length ≤ 9223372036854775807 := hr.2.1
  have HJ0 := Aside0.mk hJ
  have HP0 := Aside0.mk HP
  have HJ1 := Aside0.mk HJ
  clear hr hJ HP HJ
  go_enter Try.func90, Try.ntmps90
  go_wp2_with fail
  go_loopg [5, 8] l.length (fun g v5 v8 wr => ∃ (i : Nat), v8 = .int .i64 (i : Int) ∧ Aside0 (i ≤ l.length ∧ l.length - i ≤ g) ∧ Aside0 (idxN p l 0 = idxN p (l.drop i) i) ∧ Aside0 (J wr) ∧ Aside0 (Below w.heap.size w wr))
  case atStart => exact ⟨0, rfl, ⟨by omega⟩, ⟨rfl⟩, HJ0, ⟨Below.refl _ _⟩⟩
  case round =>
    clear HJ0
    obtain ⟨i, rfl, HI, HT, HK, HB⟩ := hrel
    by_cases hlt : (i : Int) < l.length
    · have hltb := decide_eq_true hlt
      obtain ⟨ad, rfl, e0, e1⟩ := at_T75 HR.out (i : Int) (by omega) hlt
      simp only [Int.toNat_natCast] at e0 e1
      replace e0 := (HB.out.cell (World.block_lt_of_cell? w _ e0)).trans e0
      replace e1 := (HB.out.cell (World.block_lt_of_cell? w _ e1)).trans e1
      obtain ⟨x, hx⟩ : ∃ x, rd_T75 l (i : Int) = x := ⟨_, rfl⟩
      have HX := Aside0.mk hx
      have HM := Aside0.mk (hx ▸ rd_mem l i (by omega))
      rw [hx] at e0 e1
      clear hx
      have hix := HT.out
      rw [idxN_at p l i (by omega), HX.out] at hix
      have HT2 := Aside0.mk hix
      clear hix HT
      cases hp : p x with
      | true =>
        have HQ := Aside0.mk hp
        clear hp
        go_wp2_with (go_at_call 65; refine (HP0.out x _ HM.out HK.out).mono ?_; rintro e w1 ⟨rfl, hb⟩; rw [HQ.out]; have HB1 := Aside0.mk (below_call HB.out hb); have HK1 := Aside0.mk (HJ1.out _ _ HK.out hb); clear hb)
        go_ret
        exact ⟨by rw [HT2.out, if_pos HQ.out]; rfl, HB1.out, HK1.out⟩
      | false =>
        have HQ := Aside0.mk hp
        clear hp
        go_wp2_with (go_at_call 65; refine (HP0.out x _ HM.out HK.out).mono ?_; rintro e w1 ⟨rfl, hb⟩; rw [HQ.out]; have HB1 := Aside0.mk (below_call HB.out hb); have HK1 := Aside0.mk (HJ1.out _ _ HK.out hb); clear hb)
        go_roundg (gk - 1)
        case measure => have := HI.out; omega
        case rel => exact ⟨i + 1, by go_num, ⟨by have := HI.out; omega⟩, ⟨by rw [HT2.out, if_neg (by rw [HQ.out]; decide)]⟩, HK1, HB1⟩
    · have hltb := decide_eq_false hlt
      go_wp2
      go_ret
      refine ⟨?_, HB.out, HK.out⟩
      have hie : i = l.length := by have := HI.out; omega
      rw [HT.out, hie, List.drop_length]
      rfl
def oddE (x : S75) : Bool := decide (x.f0 > 4611686018427387903) || decide ((x.f1.size : Int) > 4096)
set_option maxHeartbeats 1000000 in
set_option maxRecDepth 100000 in
theorem cl65 (x : S75) (w : World) : Calls Try.prog 65 #[.agg #[.int .u64 x.f0, .string x.f1]] w fun e w' => e = .returned (.bool (oddE x)) ∧ Below w.heap.size w w' := by
  obtain ⟨x0, x1⟩ := x
  unfold oddE
  dsimp only
  by_cases h : x0 > 4611686018427387903
  · have hb := decide_eq_true h
    have hc : decide (4611686018427387903 < x0) = true := hb
    clear h
    go_enter Try.func65, Try.ntmps65
    go_wp2
    go_ret
    exact ⟨by simp [hb], below_alloc (Below.refl _ _) _⟩
  · have hb := decide_eq_false h
    have hc : decide (4611686018427387903 < x0) = false := hb
    clear h
    go_enter Try.func65, Try.ntmps65
    go_wp2
    go_ret
    exact ⟨by simp [hb], below_alloc (Below.refl _ _) _⟩
theorem idx_any (p : S75 → Bool) : ∀ (l : List S75) (i : Nat), decide (0 ≤ idxN p l i) = l.any p
  | [], i => by simp [idxN]
  | x :: r, i => by
    unfold idxN
    rw [List.any_cons]
    by_cases h : p x = true
    · rw [if_pos h, h]; simp
    · rw [if_neg h, idx_any p r (i + 1)]
      simp [h]
set_option maxHeartbeats 1000000 in
set_option maxRecDepth 100000 in
theorem contains_calls (A : Option Addr) (c : Nat) (l : List S75) (w : World) (hr : Kd.C k75 w A l.length l) (hc : l.length ≤ c) :
    Calls Try.prog 66 #[.slice A l.length c, .func (.func 65) #[] #[]] w fun e w' => e = .returned (.bool (l.any oddE)) ∧ Below w.heap.size w w' := by
  have H := Aside0.mk (idx_65 A c l oddE (fun _ => True) w hr hc trivial (fun _ _ _ _ => trivial) (fun x W _ _ => cl65 x W))
  clear hr
  go_enter Try.func66, Try.ntmps66
  go_wp2_with fail
  refine H.out.mono ?_
  rintro e w1 ⟨rfl, hb, -⟩
  go_wp2
  go_ret
  refine ⟨?_, hb⟩
  rw [← idx_any oddE l 0]
  rfl
end Go.Proofs.Ytfjhlcbpogihmaa.Pr
namespace Go.Proofs.Ytfjhlcbpogihmaa.Pr
open Go.RowKit Go.Proofs.YtfjhlcbpogihmaaW.PrintWords Go.Proofs.YtfjhlcbpogihmaaW.PrintLast Go.Proofs.YtfjhlcbpogihmaaW.PrintMore
open Go.Proofs.Ytfjhlcbpogihmaa.Hnd
attribute [local go_sem] max2_int max_four
set_option linter.unusedVariables false
set_option linter.unusedSimpArgs false
def five (a b c d e : Bool) : Value := .agg #[.bool a, .bool b, .bool c, .bool d, .bool e]
def nmEs : Array MapEntry := #[⟨.int .i64 1, five true false false false false, 0⟩, ⟨.int .i64 3, five true false false false false, 1⟩, ⟨.int .i64 2, five false false true false false, 2⟩, ⟨.int .i64 4, five false false true false false, 3⟩, ⟨.int .i64 5, five true true false true false, 4⟩, ⟨.int .i64 6, five true false false false true, 5⟩, ⟨.int .i64 7, five true false true false false, 6⟩]
theorem mk_run (w : World) : (Instr.makeMap 109 none).run Try.prog w = .ok (.map (some w.heap.size)) (w.alloc (.map #[] 0)) := by
  simp [Instr.makeMap, go_sem]
theorem ck_int (b : Bool) (k : Int) (w : World) : (Instr.checkKey b 10000 3 (.int .i64 k)).run Try.prog w = .ok () w := by
  rw [show (10000 : Nat) = 9999 + 1 from rfl]
  unfold Instr.checkKey
  simp [go_sem, Try.underlying3]
theorem alloc_over (w : World) (o o' : Obj) : ({ w.alloc o with heap := (w.alloc o).heap.setIfInBounds w.heap.size o' } : World) = w.alloc o' := by
  have e : (w.heap.push o).setIfInBounds w.heap.size o' = w.heap.push o' := by
    apply Array.ext
    · simp
    · intro i h1 h2
      rw [Array.getElem_setIfInBounds]
      · by_cases h : w.heap.size = i
        · subst h; simp
        · rw [if_neg h]
          simp only [Array.size_push] at h2
          rw [Array.getElem_push_lt (by omega), Array.getElem_push_lt (by omega)]
      · simpa using h1
  show ({ (w.alloc o) with heap := (w.heap.push o).setIfInBounds w.heap.size o' } : World) = _
  rw [e]
  rfl
theorem upd_run (W : World) (b : Nat) (es : Array MapEntry) (c : Nat) (k : Int) (v : Value) (hb : W.heap[b]? = some (.map es c)) (hf : Instr.findNow (.int .i64) (.int .i64 k) es.toList 0 = some none) :
    (Instr.mapUpdate 109 (.map (some b)) (.int .i64 k) v).run Try.prog W = .ok () { W with heap := W.heap.setIfInBounds b (.map (es.push ⟨.int .i64 k, v, c⟩) (c + 1)) } := by
  have hg : (getObj b).run Try.prog W = .ok (.map es c) W := by simp [getObj, Sem.run, hb]
  have hs : ∀ o, (setObj b o).run Try.prog W = .ok () { W with heap := W.heap.setIfInBounds b o } := fun o => by simp [setObj, Sem.run, hb]
  unfold Instr.mapUpdate Instr.findKey
  have hu : (underlying 109).run Try.prog W = .ok (.map 3 107) W := by simp [go_sem, Try.underlying109]
  have hu3 : (underlying 3).run Try.prog W = .ok (.int .i64) W := by simp [go_sem, Try.underlying3]
  simp only [Sem.run_bind, hg, Result.andThen, ck_int, hu, hu3, hf, hs, Sem.run_pure]
theorem ins_run (w : World) (es : Array MapEntry) (c : Nat) (k : Int) (v : Value) (hf : Instr.findNow (.int .i64) (.int .i64 k) es.toList 0 = some none) :
    (Instr.mapUpdate 109 (.map (some w.heap.size)) (.int .i64 k) v).run Try.prog (w.alloc (.map es c)) = .ok () (w.alloc (.map (es.push ⟨.int .i64 k, v, c⟩) (c + 1))) := by
  rw [upd_run _ _ es c k v (heap_alloc_new w (.map es c)) hf, alloc_over]
set_option maxHeartbeats 1000000 in
set_option maxRecDepth 100000 in
theorem post_names_calls (w : World) : Calls Try.prog 64 #[] w fun e w' => e = .returned (.map (some w.heap.size)) ∧ w' = w.alloc (.map nmEs 7) := by
  have i0_ := mk_run w
  have i0 := ins_run w (#[] : Array MapEntry) 0 1 (.agg #[.bool true, .bool false, .bool false, .bool false, .bool false]) rfl
  have i1 := ins_run w (#[⟨.int .i64 1, five true false false false false, 0⟩] : Array MapEntry) 1 3 (.agg #[.bool true, .bool false, .bool false, .bool false, .bool false]) rfl
  have i2 := ins_run w (#[⟨.int .i64 1, five true false false false false, 0⟩, ⟨.int .i64 3, five true false false false false, 1⟩] : Array MapEntry) 2 2 (.agg #[.bool false, .bool false, .bool true, .bool false, .bool false]) rfl
  have i3 := ins_run w (#[⟨.int .i64 1, five true false false false false, 0⟩, ⟨.int .i64 3, five true false false false false, 1⟩, ⟨.int .i64 2, five false false true false false, 2⟩] : Array MapEntry) 3 4 (.agg #[.bool false, .bool false, .bool true, .bool false, .bool false]) rfl
  have i4 := ins_run w (#[⟨.int .i64 1, five true false false false false, 0⟩, ⟨.int .i64 3, five true false false false false, 1⟩, ⟨.int .i64 2, five false false true false false, 2⟩, ⟨.int .i64 4, five false false true false false, 3⟩] : Array MapEntry) 4 5 (.agg #[.bool true, .bool true, .bool false, .bool true, .bool false]) rfl
  have i5 := ins_run w (#[⟨.int .i64 1, five true false false false false, 0⟩, ⟨.int .i64 3, five true false false false false, 1⟩, ⟨.int .i64 2, five false false true false false, 2⟩, ⟨.int .i64 4, five false false true false false, 3⟩, ⟨.int .i64 5, five true true false true false, 4⟩] : Array MapEntry) 5 6 (.agg #[.bool true, .bool false, .bool false, .bool false, .bool true]) rfl
  have i6 := ins_run w (#[⟨.int .i64 1, five true false false false false, 0⟩, ⟨.int .i64 3, five true false false false false, 1⟩, ⟨.int .i64 2, five false false true false false, 2⟩, ⟨.int .i64 4, five false false true false false, 3⟩, ⟨.int .i64 5, five true true false true false, 4⟩, ⟨.int .i64 6, five true false false false true, 5⟩] : Array MapEntry) 6 7 (.agg #[.bool true, .bool false, .bool true, .bool false, .bool false]) rfl
  simp only [List.push_toArray, List.nil_append, List.cons_append, five] at i0 i1 i2 i3 i4 i5 i6
  go_enter Try.func64, Try.ntmps64
  go_wp2
  go_ret
  exact ⟨rfl, rfl⟩
def hI (k : Int) : Bool := k == 1 || (k == 3 || (k == 5 || (k == 6 || k == 7)))
def hC (k : Int) : Bool := k == 5
def hT (k : Int) : Bool := k == 2 || (k == 4 || k == 7)
def hE (k : Int) : Bool := k == 5
def hS (k : Int) : Bool := k == 6
def isK (k : Int) : Bool := decide (1 ≤ k) && decide (k ≤ 7)
def nmAt (k : Int) : Option (Option (Nat × Value)) := Instr.findNow (.int .i64) (.int .i64 k) nmEs.toList 0
theorem nm_at (k : Int) : (match nmAt k with | some (some (_, v)) => (v, true) | _ => (five false false false false false, false)) = (five (hI k) (hC k) (hT k) (hE k) (hS k), isK k) ∧ ∃ r, nmAt k = some r := by
  by_cases h1 : k = 1
  · subst h1; exact ⟨rfl, _, rfl⟩
  by_cases h2 : k = 2
  · subst h2; exact ⟨rfl, _, rfl⟩
  by_cases h3 : k = 3
  · subst h3; exact ⟨rfl, _, rfl⟩
  by_cases h4 : k = 4
  · subst h4; exact ⟨rfl, _, rfl⟩
  by_cases h5 : k = 5
  · subst h5; exact ⟨rfl, _, rfl⟩
  by_cases h6 : k = 6
  · subst h6; exact ⟨rfl, _, rfl⟩
  by_cases h7 : k = 7
  · subst h7; exact ⟨rfl, _, rfl⟩
  have b1 : (k == 1) = false := beq_eq_false_iff_ne.mpr h1
  have b2 : (k == 2) = false := beq_eq_false_iff_ne.mpr h2
  have b3 : (k == 3) = false := beq_eq_false_iff_ne.mpr h3
  have b4 : (k == 4) = false := beq_eq_false_iff_ne.mpr h4
  have b5 : (k == 5) = false := beq_eq_false_iff_ne.mpr h5
  have b6 : (k == 6) = false := beq_eq_false_iff_ne.mpr h6
  have b7 : (k == 7) = false := beq_eq_false_iff_ne.mpr h7
  have e : nmAt k = some none := by
    unfold nmAt nmEs
    simp [Instr.findNow, Instr.sameNow, b1, b2, b3, b4, b5, b6, b7]
  have g : isK k = false := by
    unfold isK
    rw [Bool.and_eq_false_iff, decide_eq_false_iff_not, decide_eq_false_iff_not]
    omega
  refine ⟨?_, _, e⟩
  rw [e, g]
  simp [hI, hC, hT, hE, hS, b1, b2, b3, b4, b5, b6, b7]
theorem look_run (W : World) (b : Nat) (k : Int) (hb : W.heap[b]? = some (.map nmEs 7)) : (Instr.lookup 109 (.map (some b)) (.int .i64 k) true).run Try.prog W = .ok (.tuple #[.agg #[.bool (hI k), .bool (hC k), .bool (hT k), .bool (hE k), .bool (hS k)], .bool (isK k)]) W := by
  have hg : (getObj b).run Try.prog W = .ok (.map nmEs 7) W := by simp [getObj, Sem.run, hb]
  have hu : (underlying 109).run Try.prog W = .ok (.map 3 107) W := by simp [go_sem, Try.underlying109]
  have hu3 : (underlying 3).run Try.prog W = .ok (.int .i64) W := by simp [go_sem, Try.underlying3]
  have hz : (zeroValue 107).run Try.prog W = .ok (five false false false false false) W := by kernel_rfl
  obtain ⟨h1, r, h2⟩ := nm_at k
  have h3 : Instr.findNow (.int .i64) (.int .i64 k) nmEs.toList 0 = some r := h2
  rw [h2] at h1
  unfold Instr.lookup Instr.findKey
  simp only [Sem.run_bind, hg, Result.andThen, ck_int, hu, hu3, h3, Sem.run_pure, if_true]
  cases r with
  | none =>
    simp only [Prod.mk.injEq] at h1
    simp only [Sem.run_bind, hz, Result.andThen, Sem.run_pure]
    rw [h1.1, ← h1.2]
    rfl
  | some p =>
    obtain ⟨q, v⟩ := p
    simp only [Prod.mk.injEq] at h1
    simp only [Sem.run_pure]
    rw [h1.1, ← h1.2]
    rfl
end Go.Proofs.Ytfjhlcbpogihmaa.Pr
namespace Go.Proofs.Ytfjhlcbpogihmaa.Pr
open Go.RowKit Go.Proofs.YtfjhlcbpogihmaaW.PrintWords Go.Proofs.YtfjhlcbpogihmaaW.PrintLast Go.Proofs.YtfjhlcbpogihmaaW.PrintMore
set_option linter.unusedVariables false
set_option linter.unusedSimpArgs false
/-- How many bits. -/
def bl (n : Nat) : Nat := if n = 0 then 0 else Nat.log2 n + 1
theorem bl_lt {n k : Nat} : bl n ≤ k ↔ n < 2 ^ k := by
  unfold bl
  by_cases h : n = 0
  · subst h; simp; exact Nat.pow_pos (by omega)
  · rw [if_neg h, ← Nat.log2_lt h]; omega
theorem bl_unique {n m : Nat} (h : ∀ k, n < 2 ^ k ↔ m ≤ k) : bl n = m := Nat.le_antisymm (bl_lt.2 ((h m).2 (Nat.le_refl _))) ((h (bl n)).1 (bl_lt.1 (Nat.le_refl _)))
theorem bl_div {n j : Nat} (hj : 2 ^ j ≤ n) : bl n = j + bl (n / 2 ^ j) := by
  refine bl_unique fun k => ?_
  by_cases hk : j ≤ k
  · rw [show j + bl (n / 2 ^ j) ≤ k ↔ bl (n / 2 ^ j) ≤ k - j from by omega, bl_lt, Nat.div_lt_iff_lt_mul (Nat.pow_pos (by omega)), ← Nat.pow_add, Nat.sub_add_cancel hk]
  · have := Nat.pow_le_pow_right (show 2 > 0 by omega) (show k ≤ j by omega)
    exact ⟨fun h => by omega, fun h => by omega⟩
set_option maxRecDepth 100000 in
theorem tab_bl : ∀ i : Fin 256, (((⟨#[0, 1, 2, 2, 3, 3, 3, 3, 4, 4, 4, 4, 4, 4, 4, 4, 5, 5, 5, 5, 5, 5, 5, 5, 5, 5, 5, 5, 5, 5, 5, 5, 6, 6, 6, 6, 6, 6, 6, 6, 6, 6, 6, 6, 6, 6, 6, 6, 6, 6, 6, 6, 6, 6, 6, 6, 6, 6, 6, 6, 6, 6, 6, 6, 7, 7, 7, 7, 7, 7, 7, 7, 7, 7, 7, 7, 7, 7, 7, 7, 7, 7, 7, 7, 7, 7, 7, 7, 7, 7, 7, 7, 7, 7, 7, 7, 7, 7, 7, 7, 7, 7, 7, 7, 7, 7, 7, 7, 7, 7, 7, 7, 7, 7, 7, 7, 7, 7, 7, 7, 7, 7, 7, 7, 7, 7, 7, 7, 8, 8, 8, 8, 8, 8, 8, 8, 8, 8, 8, 8, 8, 8, 8, 8, 8, 8, 8, 8, 8, 8, 8, 8, 8, 8, 8, 8, 8, 8, 8, 8, 8, 8, 8, 8, 8, 8, 8, 8, 8, 8, 8, 8, 8, 8, 8, 8, 8, 8, 8, 8, 8, 8, 8, 8, 8, 8, 8, 8, 8, 8, 8, 8, 8, 8, 8, 8, 8, 8, 8, 8, 8, 8, 8, 8, 8, 8, 8, 8, 8, 8, 8, 8, 8, 8, 8, 8, 8, 8, 8, 8, 8, 8, 8, 8, 8, 8, 8, 8, 8, 8, 8, 8, 8, 8, 8, 8, 8, 8, 8, 8, 8, 8, 8, 8, 8, 8, 8, 8, 8, 8, 8, 8, 8, 8, 8, 8]⟩ : ByteArray)[i.val]'(by have := i.isLt; show i.val < 256; exact this)).toNat) = bl i.val := by decide +kernel
theorem tab_bl' (v : Int) (h0 : 0 ≤ v) (h1 : v < 256) (h : v.toNat < ((⟨#[0, 1, 2, 2, 3, 3, 3, 3, 4, 4, 4, 4, 4, 4, 4, 4, 5, 5, 5, 5, 5, 5, 5, 5, 5, 5, 5, 5, 5, 5, 5, 5, 6, 6, 6, 6, 6, 6, 6, 6, 6, 6, 6, 6, 6, 6, 6, 6, 6, 6, 6, 6, 6, 6, 6, 6, 6, 6, 6, 6, 6, 6, 6, 6, 7, 7, 7, 7, 7, 7, 7, 7, 7, 7, 7, 7, 7, 7, 7, 7, 7, 7, 7, 7, 7, 7, 7, 7, 7, 7, 7, 7, 7, 7, 7, 7, 7, 7, 7, 7, 7, 7, 7, 7, 7, 7, 7, 7, 7, 7, 7, 7, 7, 7, 7, 7, 7, 7, 7, 7, 7, 7, 7, 7, 7, 7, 7, 7, 8, 8, 8, 8, 8, 8, 8, 8, 8, 8, 8, 8, 8, 8, 8, 8, 8, 8, 8, 8, 8, 8, 8, 8, 8, 8, 8, 8, 8, 8, 8, 8, 8, 8, 8, 8, 8, 8, 8, 8, 8, 8, 8, 8, 8, 8, 8, 8, 8, 8, 8, 8, 8, 8, 8, 8, 8, 8, 8, 8, 8, 8, 8, 8, 8, 8, 8, 8, 8, 8, 8, 8, 8, 8, 8, 8, 8, 8, 8, 8, 8, 8, 8, 8, 8, 8, 8, 8, 8, 8, 8, 8, 8, 8, 8, 8, 8, 8, 8, 8, 8, 8, 8, 8, 8, 8, 8, 8, 8, 8, 8, 8, 8, 8, 8, 8, 8, 8, 8, 8, 8, 8, 8, 8, 8, 8, 8, 8]⟩ : ByteArray)).size) : (((⟨#[0, 1, 2, 2, 3, 3, 3, 3, 4, 4, 4, 4, 4, 4, 4, 4, 5, 5, 5, 5, 5, 5, 5, 5, 5, 5, 5, 5, 5, 5, 5, 5, 6, 6, 6, 6, 6, 6, 6, 6, 6, 6, 6, 6, 6, 6, 6, 6, 6, 6, 6, 6, 6, 6, 6, 6, 6, 6, 6, 6, 6, 6, 6, 6, 7, 7, 7, 7, 7, 7, 7, 7, 7, 7, 7, 7, 7, 7, 7, 7, 7, 7, 7, 7, 7, 7, 7, 7, 7, 7, 7, 7, 7, 7, 7, 7, 7, 7, 7, 7, 7, 7, 7, 7, 7, 7, 7, 7, 7, 7, 7, 7, 7, 7, 7, 7, 7, 7, 7, 7, 7, 7, 7, 7, 7, 7, 7, 7, 8, 8, 8, 8, 8, 8, 8, 8, 8, 8, 8, 8, 8, 8, 8, 8, 8, 8, 8, 8, 8, 8, 8, 8, 8, 8, 8, 8, 8, 8, 8, 8, 8, 8, 8, 8, 8, 8, 8, 8, 8, 8, 8, 8, 8, 8, 8, 8, 8, 8, 8, 8, 8, 8, 8, 8, 8, 8, 8, 8, 8, 8, 8, 8, 8, 8, 8, 8, 8, 8, 8, 8, 8, 8, 8, 8, 8, 8, 8, 8, 8, 8, 8, 8, 8, 8, 8, 8, 8, 8, 8, 8, 8, 8, 8, 8, 8, 8, 8, 8, 8, 8, 8, 8, 8, 8, 8, 8, 8, 8, 8, 8, 8, 8, 8, 8, 8, 8, 8, 8, 8, 8, 8, 8, 8, 8, 8, 8]⟩ : ByteArray)[v.toNat]'h).toNat : Int) = (bl v.toNat : Int) := by
  have h2 : v.toNat < 256 := by omega
  exact congrArg (Int.ofNat ·) (tab_bl ⟨v.toNat, h2⟩)
theorem bl_small {v : Int} (h0 : 0 ≤ v) (h1 : v < 256) : (bl v.toNat : Int) ≤ 8 := by have := (bl_lt (n := v.toNat) (k := 8)).2 (by omega); omega
theorem bl_nn (n : Nat) : 0 ≤ (bl n : Int) := by omega
def bits_Len64.f (a0 : Int) : Option Int := some (bl a0.toNat : Int)
theorem ret_i64 {a b : Int} (h : a = b) : Ending.returned (.int .i64 a) = .returned (.int .i64 b) := by rw [h]
set_option maxHeartbeats 8000000 in
set_option maxRecDepth 100000 in
theorem bits_Len64.calls0 (a0 : Int) (h0 : 0 ≤ a0) (h1 : a0 ≤ 18446744073709551615) (w : World) : Calls Try.prog 84 #[.int .u64 a0] w fun e w' => e = .returned (.int .i64 (bl a0.toNat : Int)) ∧ w = w' := by
  by_cases c0 : 4294967296 ≤ a0
  · have b0 := decide_eq_true c0
    by_cases c1 : 65536 ≤ a0 / 4294967296
    · have b1 := decide_eq_true c1
      by_cases c2 : 256 ≤ a0 / 4294967296 / 65536
      · have b2 := decide_eq_true c2
        have hx0 : 0 ≤ a0 / 4294967296 / 65536 / 256 := by omega
        have hx1 : a0 / 4294967296 / 65536 / 256 < 256 := by omega
        have hb := bl_small hx0 hx1
        have ht := tab_bl' (a0 / 4294967296 / 65536 / 256) hx0 hx1 (by show (a0 / 4294967296 / 65536 / 256).toNat < 256; omega)
        have hd : (bl a0.toNat : Int) = 56 + bl (a0 / 4294967296 / 65536 / 256).toNat := by
          have := bl_div (n := a0.toNat) (j := 56) (by omega)
          rw [this, show a0.toNat / 2 ^ 56 = (a0 / 4294967296 / 65536 / 256).toNat from by omega]
          rfl
        have HD := Aside0.mk hd
        clear hd
        have HT := Aside0.mk ht
        have HBS := Aside0.mk hb
        clear ht hb
        go_enter Try.func84, Try.ntmps84
        go_wp2
        go_ret
        refine ⟨ret_i64 ?_, rfl⟩
        rw [HD.out, HT.out]
        have e2 := HBS.out
        have e3 := bl_nn (a0 / 4294967296 / 65536 / 256).toNat
        generalize (bl (a0 / 4294967296 / 65536 / 256).toNat : Int) = z at e2 e3 ⊢
        unfold wrap64
        omega
      · have b2 := decide_eq_false c2
        have hx0 : 0 ≤ a0 / 4294967296 / 65536 := by omega
        have hx1 : a0 / 4294967296 / 65536 < 256 := by omega
        have hb := bl_small hx0 hx1
        have ht := tab_bl' (a0 / 4294967296 / 65536) hx0 hx1 (by show (a0 / 4294967296 / 65536).toNat < 256; omega)
        have hd : (bl a0.toNat : Int) = 48 + bl (a0 / 4294967296 / 65536).toNat := by
          have := bl_div (n := a0.toNat) (j := 48) (by omega)
          rw [this, show a0.toNat / 2 ^ 48 = (a0 / 4294967296 / 65536).toNat from by omega]
          rfl
        have HD := Aside0.mk hd
        clear hd
        have HT := Aside0.mk ht
        have HBS := Aside0.mk hb
        clear ht hb
        go_enter Try.func84, Try.ntmps84
        go_wp2
        go_ret
        refine ⟨ret_i64 ?_, rfl⟩
        rw [HD.out, HT.out]
        have e2 := HBS.out
        have e3 := bl_nn (a0 / 4294967296 / 65536).toNat
        generalize (bl (a0 / 4294967296 / 65536).toNat : Int) = z at e2 e3 ⊢
        unfold wrap64
        omega
    · have b1 := decide_eq_false c1
      by_cases c2 : 256 ≤ a0 / 4294967296
      · have b2 := decide_eq_true c2
        have hx0 : 0 ≤ a0 / 4294967296 / 256 := by omega
        have hx1 : a0 / 4294967296 / 256 < 256 := by omega
        have hb := bl_small hx0 hx1
        have ht := tab_bl' (a0 / 4294967296 / 256) hx0 hx1 (by show (a0 / 4294967296 / 256).toNat < 256; omega)
        have hd : (bl a0.toNat : Int) = 40 + bl (a0 / 4294967296 / 256).toNat := by
          have := bl_div (n := a0.toNat) (j := 40) (by omega)
          rw [this, show a0.toNat / 2 ^ 40 = (a0 / 4294967296 / 256).toNat from by omega]
          rfl
        have HD := Aside0.mk hd
        clear hd
        have HT := Aside0.mk ht
        have HBS := Aside0.mk hb
        clear ht hb
        go_enter Try.func84, Try.ntmps84
        go_wp2
        go_ret
        refine ⟨ret_i64 ?_, rfl⟩
        rw [HD.out, HT.out]
        have e2 := HBS.out
        have e3 := bl_nn (a0 / 4294967296 / 256).toNat
        generalize (bl (a0 / 4294967296 / 256).toNat : Int) = z at e2 e3 ⊢
        unfold wrap64
        omega
      · have b2 := decide_eq_false c2
        have hx0 : 0 ≤ a0 / 4294967296 := by omega
        have hx1 : a0 / 4294967296 < 256 := by omega
        have hb := bl_small hx0 hx1
        have ht := tab_bl' (a0 / 4294967296) hx0 hx1 (by show (a0 / 4294967296).toNat < 256; omega)
        have hd : (bl a0.toNat : Int) = 32 + bl (a0 / 4294967296).toNat := by
          have := bl_div (n := a0.toNat) (j := 32) (by omega)
          rw [this, show a0.toNat / 2 ^ 32 = (a0 / 4294967296).toNat from by omega]
          rfl
        have HD := Aside0.mk hd
        clear hd
        have HT := Aside0.mk ht
        have HBS := Aside0.mk hb
        clear ht hb
        go_enter Try.func84, Try.ntmps84
        go_wp2
        go_ret
        refine ⟨ret_i64 ?_, rfl⟩
        rw [HD.out, HT.out]
        have e2 := HBS.out
        have e3 := bl_nn (a0 / 4294967296).toNat
        generalize (bl (a0 / 4294967296).toNat : Int) = z at e2 e3 ⊢
        unfold wrap64
        omega
  · have b0 := decide_eq_false c0
    by_cases c1 : 65536 ≤ a0
    · have b1 := decide_eq_true c1
      by_cases c2 : 256 ≤ a0 / 65536
      · have b2 := decide_eq_true c2
        have hx0 : 0 ≤ a0 / 65536 / 256 := by omega
        have hx1 : a0 / 65536 / 256 < 256 := by omega
        have hb := bl_small hx0 hx1
        have ht := tab_bl' (a0 / 65536 / 256) hx0 hx1 (by show (a0 / 65536 / 256).toNat < 256; omega)
        have hd : (bl a0.toNat : Int) = 24 + bl (a0 / 65536 / 256).toNat := by
          have := bl_div (n := a0.toNat) (j := 24) (by omega)
          rw [this, show a0.toNat / 2 ^ 24 = (a0 / 65536 / 256).toNat from by omega]
          rfl
        have HD := Aside0.mk hd
        clear hd
        have HT := Aside0.mk ht
        have HBS := Aside0.mk hb
        clear ht hb
        go_enter Try.func84, Try.ntmps84
        go_wp2
        go_ret
        refine ⟨ret_i64 ?_, rfl⟩
        rw [HD.out, HT.out]
        have e2 := HBS.out
        have e3 := bl_nn (a0 / 65536 / 256).toNat
        generalize (bl (a0 / 65536 / 256).toNat : Int) = z at e2 e3 ⊢
        unfold wrap64
        omega
      · have b2 := decide_eq_false c2
        have hx0 : 0 ≤ a0 / 65536 := by omega
        have hx1 : a0 / 65536 < 256 := by omega
        have hb := bl_small hx0 hx1
        have ht := tab_bl' (a0 / 65536) hx0 hx1 (by show (a0 / 65536).toNat < 256; omega)
        have hd : (bl a0.toNat : Int) = 16 + bl (a0 / 65536).toNat := by
          have := bl_div (n := a0.toNat) (j := 16) (by omega)
          rw [this, show a0.toNat / 2 ^ 16 = (a0 / 65536).toNat from by omega]
          rfl
        have HD := Aside0.mk hd
        clear hd
        have HT := Aside0.mk ht
        have HBS := Aside0.mk hb
        clear ht hb
        go_enter Try.func84, Try.ntmps84
        go_wp2
        go_ret
        refine ⟨ret_i64 ?_, rfl⟩
        rw [HD.out, HT.out]
        have e2 := HBS.out
        have e3 := bl_nn (a0 / 65536).toNat
        generalize (bl (a0 / 65536).toNat : Int) = z at e2 e3 ⊢
        unfold wrap64
        omega
    · have b1 := decide_eq_false c1
      by_cases c2 : 256 ≤ a0
      · have b2 := decide_eq_true c2
        have hx0 : 0 ≤ a0 / 256 := by omega
        have hx1 : a0 / 256 < 256 := by omega
        have hb := bl_small hx0 hx1
        have ht := tab_bl' (a0 / 256) hx0 hx1 (by show (a0 / 256).toNat < 256; omega)
        have hd : (bl a0.toNat : Int) = 8 + bl (a0 / 256).toNat := by
          have := bl_div (n := a0.toNat) (j := 8) (by omega)
          rw [this, show a0.toNat / 2 ^ 8 = (a0 / 256).toNat from by omega]
          rfl
        have HD := Aside0.mk hd
        clear hd
        have HT := Aside0.mk ht
        have HBS := Aside0.mk hb
        clear ht hb
        go_enter Try.func84, Try.ntmps84
        go_wp2
        go_ret
        refine ⟨ret_i64 ?_, rfl⟩
        rw [HD.out, HT.out]
        have e2 := HBS.out
        have e3 := bl_nn (a0 / 256).toNat
        generalize (bl (a0 / 256).toNat : Int) = z at e2 e3 ⊢
        unfold wrap64
        omega
      · have b2 := decide_eq_false c2
        have hx0 : 0 ≤ a0 := by omega
        have hx1 : a0 < 256 := by omega
        have hb := bl_small hx0 hx1
        have ht := tab_bl' (a0) hx0 hx1 (by show (a0).toNat < 256; omega)
        have HT := Aside0.mk ht
        have HBS := Aside0.mk hb
        clear ht hb
        go_enter Try.func84, Try.ntmps84
        go_wp2
        go_ret
        refine ⟨ret_i64 ?_, rfl⟩
        rw [HT.out]
        have e2 := HBS.out
        have e3 := bl_nn (a0).toNat
        generalize (bl (a0).toNat : Int) = z at e2 e3 ⊢
        unfold wrap64
        omega
end Go.Proofs.Ytfjhlcbpogihmaa.Pr
namespace Go.Proofs.Ytfjhlcbpogihmaa.Pr
open Go.RowKit Go.Proofs.YtfjhlcbpogihmaaW.PrintWords Go.Proofs.YtfjhlcbpogihmaaW.PrintLast Go.Proofs.YtfjhlcbpogihmaaW.PrintMore
set_option linter.unusedVariables false
set_option linter.unusedSimpArgs false
/-- How many bytes a number has. -/
def sizeI (a0 : Int) : Int := if a0 < 64 then 1 else if a0 < 16384 then 2 else if a0 < 1073741824 then 4 else if a0 < 4611686018427387904 then 8 else 0
def inU64 (a0 : Int) : Prop := 0 ≤ a0 ∧ a0 ≤ 18446744073709551615
instance (a0 : Int) : Decidable (inU64 a0) := inferInstanceAs (Decidable (_ ∧ _))
def pack_Size.f (a0 : Int) : Option Int := if inU64 a0 then some (sizeI a0) else none
set_option maxHeartbeats 4000000 in
set_option maxRecDepth 100000 in
theorem pack_Size.calls0 (a0 : Int) (hi : inU64 a0) (w : World) : Calls Try.prog 53 #[.int .u64 a0] w fun e w' => e = .returned (.int .i64 (sizeI a0)) ∧ w = w' := by
  have HL := Aside0.mk (bits_Len64.calls0 a0 hi.1 hi.2)
  have t6 : bl a0.toNat ≤ 6 ↔ a0 < 64 := by
    rw [bl_lt]
    have := hi.1
    omega
  have t14 : bl a0.toNat ≤ 14 ↔ a0 < 16384 := by
    rw [bl_lt]
    have := hi.1
    omega
  have t30 : bl a0.toNat ≤ 30 ↔ a0 < 1073741824 := by
    rw [bl_lt]
    have := hi.1
    omega
  have t62 : bl a0.toNat ≤ 62 ↔ a0 < 4611686018427387904 := by
    rw [bl_lt]
    have := hi.1
    omega
  obtain ⟨h0, h1⟩ := hi
  generalize bl a0.toNat = z at HL t6 t14 t30 t62
  by_cases c0 : a0 < 64
  · have hs : sizeI a0 = 1 := by unfold sizeI; rw [if_pos c0]
    rw [hs]
    have d6 : decide ((6 : Int) < (z : Int)) = false := decide_eq_false (by omega)
    have d14 : decide ((14 : Int) < (z : Int)) = false := decide_eq_false (by omega)
    have d30 : decide ((30 : Int) < (z : Int)) = false := decide_eq_false (by omega)
    have d62 : decide ((62 : Int) < (z : Int)) = false := decide_eq_false (by omega)
    clear hs t6 t14 t30 t62 c0 h0 h1
    go_enter Try.func53, Try.ntmps53
    go_wp2_with (go_at_call 84; refine (HL.out _).mono ?_; rintro e w' ⟨rfl, rfl⟩)
    go_ret
    exact ⟨rfl, rfl⟩
  · by_cases c1 : a0 < 16384
    · have hs : sizeI a0 = 2 := by unfold sizeI; rw [if_neg c0]; rw [if_pos c1]
      rw [hs]
      have d6 : decide ((6 : Int) < (z : Int)) = true := decide_eq_true (by omega)
      have d14 : decide ((14 : Int) < (z : Int)) = false := decide_eq_false (by omega)
      have d30 : decide ((30 : Int) < (z : Int)) = false := decide_eq_false (by omega)
      have d62 : decide ((62 : Int) < (z : Int)) = false := decide_eq_false (by omega)
      clear hs t6 t14 t30 t62 c0 c1 h0 h1
      go_enter Try.func53, Try.ntmps53
      go_wp2_with (go_at_call 84; refine (HL.out _).mono ?_; rintro e w' ⟨rfl, rfl⟩)
      go_ret
      exact ⟨rfl, rfl⟩
    · by_cases c2 : a0 < 1073741824
      · have hs : sizeI a0 = 4 := by unfold sizeI; rw [if_neg c0]; rw [if_neg c1]; rw [if_pos c2]
        rw [hs]
        have d6 : decide ((6 : Int) < (z : Int)) = true := decide_eq_true (by omega)
        have d14 : decide ((14 : Int) < (z : Int)) = true := decide_eq_true (by omega)
        have d30 : decide ((30 : Int) < (z : Int)) = false := decide_eq_false (by omega)
        have d62 : decide ((62 : Int) < (z : Int)) = false := decide_eq_false (by omega)
        clear hs t6 t14 t30 t62 c0 c1 c2 h0 h1
        go_enter Try.func53, Try.ntmps53
        go_wp2_with (go_at_call 84; refine (HL.out _).mono ?_; rintro e w' ⟨rfl, rfl⟩)
        go_ret
        exact ⟨rfl, rfl⟩
      · by_cases c3 : a0 < 4611686018427387904
        · have hs : sizeI a0 = 8 := by unfold sizeI; rw [if_neg c0]; rw [if_neg c1]; rw [if_neg c2]; rw [if_pos c3]
          rw [hs]
          have d6 : decide ((6 : Int) < (z : Int)) = true := decide_eq_true (by omega)
          have d14 : decide ((14 : Int) < (z : Int)) = true := decide_eq_true (by omega)
          have d30 : decide ((30 : Int) < (z : Int)) = true := decide_eq_true (by omega)
          have d62 : decide ((62 : Int) < (z : Int)) = false := decide_eq_false (by omega)
          clear hs t6 t14 t30 t62 c0 c1 c2 c3 h0 h1
          go_enter Try.func53, Try.ntmps53
          go_wp2_with (go_at_call 84; refine (HL.out _).mono ?_; rintro e w' ⟨rfl, rfl⟩)
          go_ret
          exact ⟨rfl, rfl⟩
        · have hs : sizeI a0 = 0 := by unfold sizeI; rw [if_neg c0]; rw [if_neg c1]; rw [if_neg c2]; rw [if_neg c3]
          rw [hs]
          have d6 : decide ((6 : Int) < (z : Int)) = true := decide_eq_true (by omega)
          have d14 : decide ((14 : Int) < (z : Int)) = true := decide_eq_true (by omega)
          have d30 : decide ((30 : Int) < (z : Int)) = true := decide_eq_true (by omega)
          have d62 : decide ((62 : Int) < (z : Int)) = true := decide_eq_true (by omega)
          clear hs t6 t14 t30 t62 c0 c1 c2 c3 h0 h1
          go_enter Try.func53, Try.ntmps53
          go_wp2_with (go_at_call 84; refine (HL.out _).mono ?_; rintro e w' ⟨rfl, rfl⟩)
          go_ret
          exact ⟨rfl, rfl⟩
theorem pack_Size.calls (a0 : Int) (r : Int) (w : World) (h : pack_Size.f a0 = some r) : Calls Try.prog 53 #[.int .u64 a0] w fun e w' => e = .returned (.int .i64 r) ∧ Drawn0 w w' := by
  unfold pack_Size.f at h
  by_cases hi : inU64 a0
  · rw [if_pos hi] at h
    obtain rfl := Option.some.inj h
    exact (pack_Size.calls0 a0 hi w).mono fun _ _ ⟨he, hw⟩ => ⟨he, hw ▸ Drawn0.refl _⟩
  · rw [if_neg hi] at h
    cases h
set_option maxRecDepth 100000 in
theorem tz_1 (w : World) : Calls Try.prog 86 #[.int .u8 1] w fun e w' => e = .returned (.int .i64 0) ∧ w = w' := by
  go_enter Try.func86, Try.ntmps86
  go_wp2
  go_ret
  exact ⟨ret_i64 (by decide +kernel), rfl⟩
set_option maxRecDepth 100000 in
theorem tz_2 (w : World) : Calls Try.prog 86 #[.int .u8 2] w fun e w' => e = .returned (.int .i64 1) ∧ w = w' := by
  go_enter Try.func86, Try.ntmps86
  go_wp2
  go_ret
  exact ⟨ret_i64 (by decide +kernel), rfl⟩
set_option maxRecDepth 100000 in
theorem tz_4 (w : World) : Calls Try.prog 86 #[.int .u8 4] w fun e w' => e = .returned (.int .i64 2) ∧ w = w' := by
  go_enter Try.func86, Try.ntmps86
  go_wp2
  go_ret
  exact ⟨ret_i64 (by decide +kernel), rfl⟩
set_option maxRecDepth 100000 in
theorem tz_8 (w : World) : Calls Try.prog 86 #[.int .u8 8] w fun e w' => e = .returned (.int .i64 3) ∧ w = w' := by
  go_enter Try.func86, Try.ntmps86
  go_wp2
  go_ret
  exact ⟨ret_i64 (by decide +kernel), rfl⟩
end Go.Proofs.Ytfjhlcbpogihmaa.Pr
namespace Go.Proofs.Ytfjhlcbpogihmaa.Pr
open Go.RowKit Go.Proofs.YtfjhlcbpogihmaaW.PrintWords Go.Proofs.YtfjhlcbpogihmaaW.PrintLast Go.Proofs.YtfjhlcbpogihmaaW.PrintMore
open Go.Proofs.Ytfjhlcbpogihmaa.Hnd
set_option linter.unusedVariables false
set_option linter.unusedSimpArgs false
theorem heap_at2 (w : World) (a b : Obj) : ((w.alloc a).alloc b).drew.heap[w.heap.size + 1]? = some b := by
  have h := blk_new (w.alloc a) b
  rw [World.size_alloc] at h
  exact h
theorem prefix_get {α : Type} {cs rest : List α} {j : Nat} {x : α} (h : cs[j]? = some x) : (cs ++ rest)[j]? = some x := by rw [List.getElem?_append_left (List.getElem?_eq_some_iff.1 h).1]; exact h
theorem sizeI_1 {v : Int} (h0 : 0 ≤ v) (h1 : v < 64) : sizeI v = 1 := by
  unfold sizeI
  rw [if_pos (by omega)]
theorem sizeI_2 {v : Int} (h0 : 64 ≤ v) (h1 : v < 16384) : sizeI v = 2 := by
  unfold sizeI
  rw [if_neg (by omega)]; rw [if_pos (by omega)]
theorem sizeI_4 {v : Int} (h0 : 16384 ≤ v) (h1 : v < 1073741824) : sizeI v = 4 := by
  unfold sizeI
  rw [if_neg (by omega)]; rw [if_neg (by omega)]; rw [if_pos (by omega)]
theorem sizeI_8 {v : Int} (h0 : 1073741824 ≤ v) (h1 : v < 4611686018427387904) : sizeI v = 8 := by
  unfold sizeI
  rw [if_neg (by omega)]; rw [if_neg (by omega)]; rw [if_neg (by omega)]; rw [if_pos (by omega)]
theorem sizeI_0 {v : Int} (h0 : 4611686018427387904 ≤ v) : sizeI v = 0 := by
  unfold sizeI
  rw [if_neg (by omega)]; rw [if_neg (by omega)]; rw [if_neg (by omega)]; rw [if_neg (by omega)]
/-- The bytes of a number of 1. -/
def num1 (v : Int) : List Int := [Go.bits .or .u8 (v) 0]
set_option maxHeartbeats 8000000 in
set_option maxRecDepth 100000 in
theorem num1_calls (v : Int) (w : World) (h0 : 0 ≤ v) (h1 : v < 64) :
    Calls Try.prog 58 #[.int .u64 v] w fun e w' => e = .returned (.tuple #[.string (strOfNums (num1 v)), .int .i64 0]) ∧ Below w.heap.size w w' := by
  have HS := fun W => Aside0.mk (sizeI_1 h0 h1 ▸ pack_Size.calls0 v ⟨by omega, by omega⟩ W)
  have hmk : ∀ W : World, (Instr.makeSlice 81 (.int .i64 1) (.int .i64 1)).run Try.prog W = .ok (.slice (some ⟨W.heap.size, 0, none⟩) 1 1) (W.alloc (.cells #[.int .u8 0] 5)) := fun _ => by kernel_rfl
  have HN := Aside0.mk (show num1 v = [Go.bits .or .u8 (v) 0] from rfl)
  go_enter Try.func58, Try.ntmps58
  go_wp2_with (go_at_call 53; refine (HS _).out.mono ?_; rintro e w' ⟨rfl, rfl⟩)
  refine wp_loop_rounds 2 ?_
  iterate 2 (rw [rounds_succ]; go_wp2)
  go_region_with (go_at_call 86; refine (tz_1 _).mono ?_; rintro e w2 ⟨rfl, rfl⟩)
  all_goals
    go_wp2_with (with_reducible refine wpList_copy_splice rfl (.tmp 38) (.tmp 40) 81 81 rfl 5 Try.underlying81 (by kernel_rfl) (some ⟨w.heap.size + 1, 0, none⟩) (some ⟨w.heap.size, 0, none⟩) 1 1 1 8 rfl rfl (w.heap.size + 1) 0 [(.int .u8 0 : Value)] 5 ?_ [(.int .u8 (Go.bits .or .u8 (v) 0) : Value)] rfl ?_ (by simp) ?_ w.heap.size w ?_ (Nat.le_succ _) ?_)
    any_goals (first | (with_reducible exact heap_at2 w _ _) | exact (((Below.refl _ w).alloc (Nat.le_refl _) _).alloc (by simp) _).drew | exact fun j x hj => prefix_get (rest := [(.int .u8 0 : Value), (.int .u8 0 : Value), (.int .u8 0 : Value), (.int .u8 0 : Value), (.int .u8 0 : Value), (.int .u8 0 : Value), (.int .u8 0 : Value)]) hj | (simp [Value.oneCell']; done))
    intro w3 HG HB
    have HO : w3.ownsRow 0 5 1 (.slice (some ⟨w.heap.size + 1, 0, none⟩) 1 1) 1 (nums .u8 [Go.bits .or .u8 (v) 0]) := ⟨rfl, .inr ⟨_, 1, _, rfl, Nat.zero_le _, HG.out, Nat.le_refl _, by decide, rfl, rfl⟩⟩
    have hcv := own_string (src := 81) (dst := 9) Try.underlying81 Try.underlying5 Try.underlying9 HO
    clear HO HG
    have HB1 := Aside0.mk HB
    clear HB
    go_wp2
    go_ret2
    exact ⟨by rw [HN.out]; rfl, HB1.out⟩
/-- The bytes of a number of 2. -/
def num2 (v : Int) : List Int := [Go.bits .or .u8 (v / 256) 64, v % 256]
set_option maxHeartbeats 8000000 in
set_option maxRecDepth 100000 in
theorem num2_calls (v : Int) (w : World) (h0 : 64 ≤ v) (h1 : v < 16384) :
    Calls Try.prog 58 #[.int .u64 v] w fun e w' => e = .returned (.tuple #[.string (strOfNums (num2 v)), .int .i64 0]) ∧ Below w.heap.size w w' := by
  have HS := fun W => Aside0.mk (sizeI_2 h0 h1 ▸ pack_Size.calls0 v ⟨by omega, by omega⟩ W)
  have hmk : ∀ W : World, (Instr.makeSlice 81 (.int .i64 2) (.int .i64 2)).run Try.prog W = .ok (.slice (some ⟨W.heap.size, 0, none⟩) 2 2) (W.alloc (.cells #[.int .u8 0, .int .u8 0] 5)) := fun _ => by kernel_rfl
  have HN := Aside0.mk (show num2 v = [Go.bits .or .u8 (v / 256) 64, v % 256] from rfl)
  go_enter Try.func58, Try.ntmps58
  go_wp2_with (go_at_call 53; refine (HS _).out.mono ?_; rintro e w' ⟨rfl, rfl⟩)
  refine wp_loop_rounds 3 ?_
  iterate 3 (rw [rounds_succ]; go_wp2)
  go_region_with (go_at_call 86; refine (tz_2 _).mono ?_; rintro e w2 ⟨rfl, rfl⟩)
  all_goals
    go_wp2_with (with_reducible refine wpList_copy_splice rfl (.tmp 38) (.tmp 40) 81 81 rfl 5 Try.underlying81 (by kernel_rfl) (some ⟨w.heap.size + 1, 0, none⟩) (some ⟨w.heap.size, 0, none⟩) 2 2 2 8 rfl rfl (w.heap.size + 1) 0 [(.int .u8 0 : Value), (.int .u8 0 : Value)] 5 ?_ [(.int .u8 (Go.bits .or .u8 (v / 256) 64) : Value), (.int .u8 (v % 256) : Value)] rfl ?_ (by simp) ?_ w.heap.size w ?_ (Nat.le_succ _) ?_)
    any_goals (first | (with_reducible exact heap_at2 w _ _) | exact (((Below.refl _ w).alloc (Nat.le_refl _) _).alloc (by simp) _).drew | exact fun j x hj => prefix_get (rest := [(.int .u8 0 : Value), (.int .u8 0 : Value), (.int .u8 0 : Value), (.int .u8 0 : Value), (.int .u8 0 : Value), (.int .u8 0 : Value)]) hj | (simp [Value.oneCell']; done))
    intro w3 HG HB
    have HO : w3.ownsRow 0 5 1 (.slice (some ⟨w.heap.size + 1, 0, none⟩) 2 2) 2 (nums .u8 [Go.bits .or .u8 (v / 256) 64, v % 256]) := ⟨rfl, .inr ⟨_, 2, _, rfl, Nat.zero_le _, HG.out, Nat.le_refl _, by decide, rfl, rfl⟩⟩
    have hcv := own_string (src := 81) (dst := 9) Try.underlying81 Try.underlying5 Try.underlying9 HO
    clear HO HG
    have HB1 := Aside0.mk HB
    clear HB
    go_wp2
    go_ret2
    exact ⟨by rw [HN.out]; rfl, HB1.out⟩
/-- The bytes of a number of 4. -/
def num4 (v : Int) : List Int := [Go.bits .or .u8 (v / 16777216) 128, v / 65536 % 256, v / 256 % 256, v % 256]
set_option maxHeartbeats 8000000 in
set_option maxRecDepth 100000 in
theorem num4_calls (v : Int) (w : World) (h0 : 16384 ≤ v) (h1 : v < 1073741824) :
    Calls Try.prog 58 #[.int .u64 v] w fun e w' => e = .returned (.tuple #[.string (strOfNums (num4 v)), .int .i64 0]) ∧ Below w.heap.size w w' := by
  have HS := fun W => Aside0.mk (sizeI_4 h0 h1 ▸ pack_Size.calls0 v ⟨by omega, by omega⟩ W)
  have hmk : ∀ W : World, (Instr.makeSlice 81 (.int .i64 4) (.int .i64 4)).run Try.prog W = .ok (.slice (some ⟨W.heap.size, 0, none⟩) 4 4) (W.alloc (.cells #[.int .u8 0, .int .u8 0, .int .u8 0, .int .u8 0] 5)) := fun _ => by kernel_rfl
  have HN := Aside0.mk (show num4 v = [Go.bits .or .u8 (v / 16777216) 128, v / 65536 % 256, v / 256 % 256, v % 256] from rfl)
  go_enter Try.func58, Try.ntmps58
  go_wp2_with (go_at_call 53; refine (HS _).out.mono ?_; rintro e w' ⟨rfl, rfl⟩)
  refine wp_loop_rounds 5 ?_
  iterate 5 (rw [rounds_succ]; go_wp2)
  go_region_with (go_at_call 86; refine (tz_4 _).mono ?_; rintro e w2 ⟨rfl, rfl⟩)
  all_goals
    go_wp2_with (with_reducible refine wpList_copy_splice rfl (.tmp 38) (.tmp 40) 81 81 rfl 5 Try.underlying81 (by kernel_rfl) (some ⟨w.heap.size + 1, 0, none⟩) (some ⟨w.heap.size, 0, none⟩) 4 4 4 8 rfl rfl (w.heap.size + 1) 0 [(.int .u8 0 : Value), (.int .u8 0 : Value), (.int .u8 0 : Value), (.int .u8 0 : Value)] 5 ?_ [(.int .u8 (Go.bits .or .u8 (v / 16777216) 128) : Value), (.int .u8 (v / 65536 % 256) : Value), (.int .u8 (v / 256 % 256) : Value), (.int .u8 (v % 256) : Value)] rfl ?_ (by simp) ?_ w.heap.size w ?_ (Nat.le_succ _) ?_)
    any_goals (first | (with_reducible exact heap_at2 w _ _) | exact (((Below.refl _ w).alloc (Nat.le_refl _) _).alloc (by simp) _).drew | exact fun j x hj => prefix_get (rest := [(.int .u8 0 : Value), (.int .u8 0 : Value), (.int .u8 0 : Value), (.int .u8 0 : Value)]) hj | (simp [Value.oneCell']; done))
    intro w3 HG HB
    have HO : w3.ownsRow 0 5 1 (.slice (some ⟨w.heap.size + 1, 0, none⟩) 4 4) 4 (nums .u8 [Go.bits .or .u8 (v / 16777216) 128, v / 65536 % 256, v / 256 % 256, v % 256]) := ⟨rfl, .inr ⟨_, 4, _, rfl, Nat.zero_le _, HG.out, Nat.le_refl _, by decide, rfl, rfl⟩⟩
    have hcv := own_string (src := 81) (dst := 9) Try.underlying81 Try.underlying5 Try.underlying9 HO
    clear HO HG
    have HB1 := Aside0.mk HB
    clear HB
    go_wp2
    go_ret2
    exact ⟨by rw [HN.out]; rfl, HB1.out⟩
/-- The bytes of a number of 8. -/
def num8 (v : Int) : List Int := [Go.bits .or .u8 (v / 72057594037927936) 192, v / 281474976710656 % 256, v / 1099511627776 % 256, v / 4294967296 % 256, v / 16777216 % 256, v / 65536 % 256, v / 256 % 256, v % 256]
set_option maxHeartbeats 8000000 in
set_option maxRecDepth 100000 in
theorem num8_calls (v : Int) (w : World) (h0 : 1073741824 ≤ v) (h1 : v < 4611686018427387904) :
    Calls Try.prog 58 #[.int .u64 v] w fun e w' => e = .returned (.tuple #[.string (strOfNums (num8 v)), .int .i64 0]) ∧ Below w.heap.size w w' := by
  have HS := fun W => Aside0.mk (sizeI_8 h0 h1 ▸ pack_Size.calls0 v ⟨by omega, by omega⟩ W)
  have hmk : ∀ W : World, (Instr.makeSlice 81 (.int .i64 8) (.int .i64 8)).run Try.prog W = .ok (.slice (some ⟨W.heap.size, 0, none⟩) 8 8) (W.alloc (.cells #[.int .u8 0, .int .u8 0, .int .u8 0, .int .u8 0, .int .u8 0, .int .u8 0, .int .u8 0, .int .u8 0] 5)) := fun _ => by kernel_rfl
  have HN := Aside0.mk (show num8 v = [Go.bits .or .u8 (v / 72057594037927936) 192, v / 281474976710656 % 256, v / 1099511627776 % 256, v / 4294967296 % 256, v / 16777216 % 256, v / 65536 % 256, v / 256 % 256, v % 256] from rfl)
  go_enter Try.func58, Try.ntmps58
  go_wp2_with (go_at_call 53; refine (HS _).out.mono ?_; rintro e w' ⟨rfl, rfl⟩)
  refine wp_loop_rounds 9 ?_
  iterate 9 (rw [rounds_succ]; go_wp2)
  go_region_with (go_at_call 86; refine (tz_8 _).mono ?_; rintro e w2 ⟨rfl, rfl⟩)
  all_goals
    go_wp2_with (with_reducible refine wpList_copy_splice rfl (.tmp 38) (.tmp 40) 81 81 rfl 5 Try.underlying81 (by kernel_rfl) (some ⟨w.heap.size + 1, 0, none⟩) (some ⟨w.heap.size, 0, none⟩) 8 8 8 8 rfl rfl (w.heap.size + 1) 0 [(.int .u8 0 : Value), (.int .u8 0 : Value), (.int .u8 0 : Value), (.int .u8 0 : Value), (.int .u8 0 : Value), (.int .u8 0 : Value), (.int .u8 0 : Value), (.int .u8 0 : Value)] 5 ?_ [(.int .u8 (Go.bits .or .u8 (v / 72057594037927936) 192) : Value), (.int .u8 (v / 281474976710656 % 256) : Value), (.int .u8 (v / 1099511627776 % 256) : Value), (.int .u8 (v / 4294967296 % 256) : Value), (.int .u8 (v / 16777216 % 256) : Value), (.int .u8 (v / 65536 % 256) : Value), (.int .u8 (v / 256 % 256) : Value), (.int .u8 (v % 256) : Value)] rfl ?_ (by simp) ?_ w.heap.size w ?_ (Nat.le_succ _) ?_)
    any_goals (first | (with_reducible exact heap_at2 w _ _) | exact (((Below.refl _ w).alloc (Nat.le_refl _) _).alloc (by simp) _).drew | exact fun j x hj => prefix_get (rest := []) hj | (simp [Value.oneCell']; done))
    intro w3 HG HB
    have HO : w3.ownsRow 0 5 1 (.slice (some ⟨w.heap.size + 1, 0, none⟩) 8 8) 8 (nums .u8 [Go.bits .or .u8 (v / 72057594037927936) 192, v / 281474976710656 % 256, v / 1099511627776 % 256, v / 4294967296 % 256, v / 16777216 % 256, v / 65536 % 256, v / 256 % 256, v % 256]) := ⟨rfl, .inr ⟨_, 8, _, rfl, Nat.zero_le _, HG.out, Nat.le_refl _, by decide, rfl, rfl⟩⟩
    have hcv := own_string (src := 81) (dst := 9) Try.underlying81 Try.underlying5 Try.underlying9 HO
    clear HO HG
    have HB1 := Aside0.mk HB
    clear HB
    go_wp2
    go_ret2
    exact ⟨by rw [HN.out]; rfl, HB1.out⟩
set_option maxHeartbeats 8000000 in
set_option maxRecDepth 100000 in
theorem num0_calls (v : Int) (w : World) (h0 : 4611686018427387904 ≤ v) (h1 : v ≤ 18446744073709551615) :
    Calls Try.prog 58 #[.int .u64 v] w fun e w' => e = .returned (.tuple #[.string ⟨#[]⟩, .int .i64 4]) ∧ Below w.heap.size w w' := by
  have HS := fun W => Aside0.mk (sizeI_0 h0 ▸ pack_Size.calls0 v ⟨by omega, by omega⟩ W)
  go_enter Try.func58, Try.ntmps58
  go_wp2_with (go_at_call 53; refine (HS _).out.mono ?_; rintro e w' ⟨rfl, rfl⟩)
  go_ret2
  exact ⟨rfl, Below.refl _ _⟩
/-- A number's bytes, and whether it has any. -/
def numL (v : Int) : List Int := if v < 64 then num1 v else if v < 16384 then num2 v else if v < 1073741824 then num4 v else if v < 4611686018427387904 then num8 v else []
def numE (v : Int) : Int := if v < 4611686018427387904 then 0 else 4
def pack_Num.f (v : Int) : Option (ByteArray × Int) := if inU64 v then some (strOfNums (numL v), numE v) else none
theorem pack_Num.calls (a0 : Int) (r1 : ByteArray) (r2 : Int) (w : World) (h : pack_Num.f a0 = some (r1, r2)) : Calls Try.prog 58 #[.int .u64 a0] w fun e w' => e = .returned (.tuple #[.string r1, .int .i64 r2]) ∧ Below w.heap.size w w' := by
  unfold pack_Num.f at h
  by_cases hi : inU64 a0
  · rw [if_pos hi] at h
    simp only [Option.some.injEq, Prod.mk.injEq] at h
    obtain ⟨rfl, rfl⟩ := h
    obtain ⟨h0, h1⟩ := hi
    unfold numL numE
    by_cases c1 : a0 < 64
    · rw [if_pos c1, if_pos (by omega)]; exact num1_calls a0 w h0 c1
    · rw [if_neg c1]
      by_cases c2 : a0 < 16384
      · rw [if_pos c2, if_pos (by omega)]; exact num2_calls a0 w (by omega) c2
      · rw [if_neg c2]
        by_cases c3 : a0 < 1073741824
        · rw [if_pos c3, if_pos (by omega)]; exact num4_calls a0 w (by omega) c3
        · rw [if_neg c3]
          by_cases c4 : a0 < 4611686018427387904
          · rw [if_pos c4, if_pos c4]; exact num8_calls a0 w (by omega) c4
          · rw [if_neg c4, if_neg c4]; exact num0_calls a0 w (by omega) h1
  · rw [if_neg hi] at h
    cases h
end Go.Proofs.Ytfjhlcbpogihmaa.Pr
set_option linter.unusedVariables false
set_option linter.unusedSimpArgs false
namespace Go.Proofs.Ytfjhlcbpogihmaa.Pr
open Go.RowKit Go.Proofs Go.Proofs.YtfjhlcbpogihmaaW.PrintWords Go.Proofs.YtfjhlcbpogihmaaW.PrintLast Go.Proofs.YtfjhlcbpogihmaaW.PrintMore
open Go.Proofs.Ytfjhlcbpogihmaa.Hnd
theorem bld_size : (Try.prog.info? 94).map (·.size) = some 2 := by kernel_rfl
theorem bld_lies : liesAt Try.prog Try.prog.depth 94 (2 / Try.prog.cellsOf 94) 0 94 1 = true := by kernel_rfl
theorem bld_byte : (Try.prog.info? 5).map (fun i => (i.zero, i.size, i.bytes)) = some (some (.int .u8 0), 1, 1) := by kernel_rfl
theorem bld_cells : Try.prog.cellsOf 5 = 1 := by kernel_rfl
theorem heap_setCell_ne (w : World) (p : Addr) (v : Value) (k : Nat) (h : p.block ≠ k) : (w.setCell p v).heap[k]? = w.heap[k]? := by
  simp only [World.setCell, Array.getElem?_modify]
  rw [if_neg h]
theorem bld_ne : (94 : TypeId) ≠ 5 := by decide
set_option maxHeartbeats 1000000 in
set_option maxRecDepth 100000 in
theorem bcc_used (b : Nat) (w : World) (h0 : w.cell? ⟨b, 0, none⟩ = some (.pointer (some ⟨b, 0, none⟩))) :
    Calls Try.prog 85 #[.pointer (some ⟨b, 0, none⟩)] w fun e w' => e = .returned (.tuple #[]) ∧ w' = w := by
  obtain ⟨j, hj, _⟩ := Option.map_eq_some_iff.1 bld_size
  have u0 := Try.underlying94
  have u1 := Try.underlying92
  go_enter Try.func85, Try.ntmps85
  go_wp2
  rw [Lib.run_neq_ptr_same w _ Try.underlying92 hj]
  go_wp2
  go_end0
  exact ⟨rfl, rfl⟩
set_option maxHeartbeats 1000000 in
set_option maxRecDepth 100000 in
theorem bcc_fresh (b : Nat) (w : World) (h0 : w.cell? ⟨b, 0, none⟩ = some (.pointer none)) (hsh : w.shape? b = some (94, 2)) (hfz : w.frozen? ⟨b, 0, none⟩ = false) :
    Calls Try.prog 85 #[.pointer (some ⟨b, 0, none⟩)] w fun e w' => e = .returned (.tuple #[]) ∧ w' = w.setCell ⟨b, 0, none⟩ (.pointer (some ⟨b, 0, none⟩)) := by
  obtain ⟨j, hj, hjs⟩ := Option.map_eq_some_iff.1 bld_size
  have u0 := Try.underlying94
  have u1 := Try.underlying92
  go_enter Try.func85, Try.ntmps85
  go_wp2
  rw [Lib.run_to_unsafe w ⟨b, 0, none⟩ Try.underlying92 Try.underlying142 hj (by rw [hjs]; decide) hsh (Nat.zero_lt_succ 1)]
  simp only [Result.andThen]
  rw [Oper.upon_value]
  go_wp2
  rw [run_callFunc_extern Try.func95 (by kernel_rfl) (by kernel_rfl) (by kernel_rfl) (e := Extern.AbiNoEscape.same) (by kernel_rfl)]
  rw [Lib.run_noEscape]
  simp only [Result.andThen]
  rw [Oper.upon_value]
  go_wp2
  rw [Lib.run_from_unsafe w ⟨b, 0, none⟩ Try.underlying142 Try.underlying92 hj hsh bld_lies]
  simp only [Result.andThen]
  rw [Oper.upon_value]
  go_wp2
  go_end0
  exact ⟨rfl, rfl⟩
/-- copyCheck: behind it the builder is used; its bytes are as they were. -/
theorem bcc (B b : Nat) (bs : List Value) (w : World) (h : Lib.IsBuilder 94 5 B b bs w) :
    Calls Try.prog 85 #[.pointer (some ⟨b, 0, none⟩)] w fun e w' => e = .returned (.tuple #[]) ∧ (Lib.BuilderAt 94 5 B b (.pointer (some ⟨b, 0, none⟩)) bs w' ∧ Below B w w' ∧ (∀ (k : Nat) (cs : Array Value) (t : TypeId) (fz : Nat × Nat), w.heap[k]? = some (Obj.cells cs t fz) → t ≠ 94 → t ≠ 5 → w'.heap[k]? = some (Obj.cells cs t fz))) := by
  rcases h with h | h
  · refine (bcc_fresh b w h.cell0 h.shape h.frozen0).mono ?_
    rintro e w' ⟨rfl, rfl⟩
    refine ⟨rfl, h.used _, (Below.refl B w).setCell (p := ⟨b, 0, none⟩) h.1 _, fun k cs t fz hk h1 h2 => ?_⟩
    have hne : k ≠ b := by
      rintro rfl
      obtain ⟨_, v, hb, _⟩ := h
      rw [hb] at hk
      injection hk with hk
      injection hk with _ e _
      exact h1 e.symm
    exact (heap_setCell_ne w ⟨b, 0, none⟩ _ k (Ne.symm hne)).trans hk
  · refine (bcc_used b w h.cell0).mono ?_
    rintro e w' ⟨rfl, rfl⟩
    exact ⟨rfl, h, Below.refl B _, fun k cs t fz hk _ _ => hk⟩
set_option maxHeartbeats 2000000 in
set_option maxRecDepth 100000 in
/-- WriteString: the text stands behind what was there. -/
theorem bws (B b : Nat) (bs : List Value) (s : ByteArray) (w : World) (h : Lib.IsBuilder 94 5 B b bs w) (hlen : bs.length + s.size ≤ 140737488355328) (hBw : B ≤ w.heap.size) :
    Calls Try.prog 55 #[.pointer (some ⟨b, 0, none⟩), .string s] w fun e w' => e = .returned (.tuple #[.int .i64 s.size, .nilIface]) ∧ (Lib.BuilderAt 94 5 B b (.pointer (some ⟨b, 0, none⟩)) (bs ++ Lib.strCells s) w' ∧ Below B w w' ∧ (∀ (k : Nat) (cs : Array Value) (t : TypeId) (fz : Nat × Nat), w.heap[k]? = some (Obj.cells cs t fz) → t ≠ 94 → t ≠ 5 → w'.heap[k]? = some (Obj.cells cs t fz))) := by
  obtain ⟨i0, hi, hz⟩ := Option.map_eq_some_iff.1 bld_byte
  obtain ⟨hz0, hz1, hz2⟩ : i0.zero = some (.int .u8 0) ∧ i0.size = 1 ∧ i0.bytes = 1 := by
    simp only [Prod.mk.injEq] at hz
    exact hz
  have HCC := Aside0.mk (bcc B b bs w h)
  clear hz
  go_enter Try.func55, Try.ntmps55
  go_wp2_with (go_at_call 85; refine HCC.out.mono ?_)
  rintro e w1 ⟨rfl, h1, hb1, hkeep⟩
  obtain ⟨hB, v, hbk, hown, hne⟩ := h1
  have c0 : w1.cell? ⟨b, 0, none⟩ = some (.pointer (some ⟨b, 0, none⟩)) := by rw [Lib.cell_of_heap hbk]; rfl
  have c1 : w1.cell? ⟨b, 1, none⟩ = some v := by rw [Lib.cell_of_heap hbk]; rfl
  go_wp2_with (at_builtin; refine Lib.wpList_append_own_string _ rfl _ _ 81 9 rfl B 5 i0 Try.underlying81 Try.underlying9 hi hz0 hz1 hz2 _ _ _ rfl hown s rfl ?c3 ?c4 ?c5 ?_)
  case c3 => unfold maxLen; omega
  case c4 => omega
  case c5 => have := hb1.size; omega
  intro v' w2 hown' hgrow _
  have hlt : b < w1.heap.size := by
    rcases Nat.lt_or_ge b w1.heap.size with h' | h'
    · exact h'
    · simp [Array.getElem?_eq_none h'] at hbk
  have hb2 : w2.heap[b]? = some (.cells #[.pointer (some ⟨b, 0, none⟩), v] 94 (0, 0)) := by
    rw [hgrow.block b hlt (fun e => hne e.symm)]
    exact hbk
  have d0 : w2.cell? ⟨b, 0, none⟩ = some (.pointer (some ⟨b, 0, none⟩)) := by rw [Lib.cell_of_heap hb2]; rfl
  have d1 : w2.cell? ⟨b, 1, none⟩ = some v := by rw [Lib.cell_of_heap hb2]; rfl
  have f1 : w2.frozen? ⟨b, 1, none⟩ = false := Lib.frozen_of_heap hb2 1
  obtain ⟨ao, n', cap, rfl⟩ : ∃ ao n' cap, v' = .slice ao n' cap := by
    rcases hown'.2 with ⟨hv, _⟩ | ⟨g, cap, cur, hv, _⟩
    · exact ⟨_, _, _, hv⟩
    · exact ⟨_, _, _, hv⟩
  go_wp2
  go_ret2
  refine ⟨rfl, ?_, ?_, fun k cs t fz hk h1 h2 => ?_⟩
  rotate_left 2
  · have hk1 := hkeep k cs t fz hk h1 h2
    have hkl : k < w1.heap.size := by
      rcases Nat.lt_or_ge k w1.heap.size with h' | h'
      · exact h'
      · simp [Array.getElem?_eq_none h'] at hk1
    have hkb : b ≠ k := by
      rintro rfl
      rw [hbk] at hk1
      injection hk1 with hk1
      injection hk1 with _ e _
      exact h1 e.symm
    have hkv : some k ≠ v.ownBlock := by
      rcases hown.2 with ⟨rfl, _⟩ | ⟨g, cap', cur, rfl, _, hg, _⟩
      · simp [Value.ownBlock]
      · intro e
        have e : k = g := by simpa [Value.ownBlock] using e
        rw [← e, hk1] at hg
        injection hg with hg
        injection hg with _ e2 _
        exact h2 e2
    exact (heap_setCell_ne w2 ⟨b, 1, none⟩ _ k hkb).trans ((hgrow.block k hkl hkv).trans hk1)
  · exact Lib.BuilderAt.put (T := 94) (e := 5) hB hb2 (bs' := bs ++ Lib.strCells s) (by simpa [Lib.strCells_length] using hown') bld_ne
  · exact (hb1.grown hgrow (by have := hb1.size; omega) (fun k hk => (hown.lt k hk).1)).setCell (p := ⟨b, 1, none⟩) hB _
set_option maxHeartbeats 1000000 in
set_option maxRecDepth 100000 in
theorem bstr_some (B b : Nat) (l : List UInt8) (w : World) (h : Lib.IsBuilder 94 5 B b (Lib.byteCells l) w) (h0 : l ≠ []) :
    Calls Try.prog 56 #[.pointer (some ⟨b, 0, none⟩)] w fun e w' => e = .returned (.string ⟨l.toArray⟩) ∧ Below B w w' := by
  obtain ⟨p, hB, v, hbk, hown, hne⟩ : ∃ p, Lib.BuilderAt 94 5 B b p (Lib.byteCells l) w := by
    rcases h with h | h
    · exact ⟨_, h⟩
    · exact ⟨_, h⟩
  have hl0 : l.length ≠ 0 := by simpa using h0
  rw [Lib.byteCells_length] at hown
  obtain ⟨g, cap, cur, rfl, hbg, hg, hnc, hcm, hcs, htake⟩ : ∃ g cap cur, v = .slice (some ⟨g, 0, none⟩) l.length cap ∧ B ≤ g ∧ w.heap[g]? = some (.cells cur 5 (0, 0)) ∧ l.length ≤ cap ∧ cap ≤ maxLen ∧ cur.size = cap * 1 ∧ cur.toList.take (l.length * 1) = Lib.byteCells l := by
    rcases hown.2 with ⟨_, hz⟩ | ⟨g, cap, cur, hv, r⟩
    · exact absurd hz hl0
    · exact ⟨g, cap, cur, hv, r⟩
  have c1 : w.drew.cell? ⟨b, 1, none⟩ = some (.slice (some ⟨g, 0, none⟩) l.length cap) := by
    have : w.drew.heap[b]? = some (.cells #[p, .slice (some ⟨g, 0, none⟩) l.length cap] 94 (0, 0)) := hbk
    rw [Lib.cell_of_heap this]; rfl
  have hSD : (Builtin.unsafeSliceData_ #[81] 133 #[.slice (some ⟨g, 0, none⟩) l.length cap]).run Try.prog w.drew = .ok (.pointer (some ⟨g, 0, none⟩)) w.drew :=
    Lib.run_unsafeSliceData_row _ _ _ _ _ _ (by omega)
  have hUS : (Builtin.unsafeString_ #[133, 3] 9 #[.pointer (some ⟨g, 0, none⟩), .int .i64 l.length]).run Try.prog w.drew = .ok (.string ⟨l.toArray⟩) (w.drew.freeze ⟨g, 0, none⟩ l.length) := by
    refine Lib.run_unsafeString_row w.drew 133 3 9 5 Try.underlying133 bld_cells g cur.size (by have hg' : w.drew.heap[g]? = some (.cells cur 5 (0, 0)) := hg; simp [World.shape?, hg']) l h0 (by omega) (by unfold maxLen at hcm; omega) ?_
    intro j x hx
    have := hown.cells (g := g) rfl j (.int .u8 x.toNat) (by simp [Lib.byteCells, hx])
    exact this
  have mixed : Try.prog.follows Departure.mixedOrders = true := by kernel_rfl
  go_enter Try.func56, Try.ntmps56
  go_wp2
  go_region_o
  all_goals (go_wp2; go_ret; exact ⟨rfl, Lib.below_freeze (Below.drew (Below.refl B w)) (p := ⟨g, 0, none⟩) hbg _⟩)
theorem us_none (W : World) (q : Option Addr) : (Builtin.unsafeString_ #[133, 3] 9 #[.pointer q, .int .i64 0]).run Try.prog W = .ok (.string .empty) W :=
  Lib.run_unsafeString_none W _ _ _ q
set_option maxHeartbeats 2000000 in
set_option maxRecDepth 100000 in
theorem bstr_nil (B b : Nat) (p : Value) (w : World) (hbk : w.heap[b]? = some (.cells #[p, .slice none 0 0] 94 (0, 0))) :
    Calls Try.prog 56 #[.pointer (some ⟨b, 0, none⟩)] w fun e w' => e = .returned (.string ⟨#[]⟩) ∧ Below B w w' := by
  have hUS := us_none
  have c1 : w.drew.cell? ⟨b, 1, none⟩ = some (.slice none 0 0) := by
    have : w.drew.heap[b]? = some (.cells #[p, .slice none 0 0] 94 (0, 0)) := hbk
    rw [Lib.cell_of_heap this]; rfl
  have hSD : (Builtin.unsafeSliceData_ #[81] 133 #[.slice none 0 0]).run Try.prog w.drew = .ok (.pointer none) w.drew := rfl
  have mixed : Try.prog.follows Departure.mixedOrders = true := by kernel_rfl
  go_enter Try.func56, Try.ntmps56
  go_wp2
  go_region_o
  all_goals (go_wp2; go_ret; exact ⟨rfl, Below.drew (Below.refl B w)⟩)
set_option maxHeartbeats 2000000 in
set_option maxRecDepth 100000 in
theorem bstr_noroom (B b g : Nat) (p : Value) (cur : Array Value) (w : World) (hBw : B ≤ w.heap.size) (hbk : w.heap[b]? = some (.cells #[p, .slice (some ⟨g, 0, none⟩) 0 0] 94 (0, 0))) (hg : w.heap[g]? = some (.cells cur 5 (0, 0))) :
    Calls Try.prog 56 #[.pointer (some ⟨b, 0, none⟩)] w fun e w' => e = .returned (.string ⟨#[]⟩) ∧ Below B w w' := by
  have hUS := us_none
  have hlt : b < w.heap.size := by
    rcases Nat.lt_or_ge b w.heap.size with h' | h'
    · exact h'
    · simp [Array.getElem?_eq_none h'] at hbk
  have c1 : w.drew.cell? ⟨b, 1, none⟩ = some (.slice (some ⟨g, 0, none⟩) 0 0) := by
    have : w.drew.heap[b]? = some (.cells #[p, .slice (some ⟨g, 0, none⟩) 0 0] 94 (0, 0)) := hbk
    rw [Lib.cell_of_heap this]; rfl
  have hSD : (Builtin.unsafeSliceData_ #[81] 133 #[.slice (some ⟨g, 0, none⟩) 0 0]).run Try.prog w.drew = .ok (.pointer (some ⟨w.drew.heap.size, 0, none⟩)) (w.drew.alloc (.view ⟨g, 0, none⟩ 5)) :=
    Lib.run_unsafeSliceData_zero w.drew _ _ 5 Try.underlying133 ⟨g, 0, none⟩ 0 (5, cur.size) (by have hg' : w.drew.heap[g]? = some (.cells cur 5 (0, 0)) := hg; simp [World.shape?, hg'])
  have c2 : (w.drew.alloc (.view ⟨g, 0, none⟩ 5)).cell? ⟨b, 1, none⟩ = some (.slice (some ⟨g, 0, none⟩) 0 0) := by
    have : (w.drew.alloc (.view ⟨g, 0, none⟩ 5)).heap[b]? = _ := (Lib.alloc_old w.drew _ b hlt).trans hbk
    rw [Lib.cell_of_heap this]; rfl
  have c3 : (w.alloc (.view ⟨g, 0, none⟩ 5)).drew.cell? ⟨b, 1, none⟩ = some (.slice (some ⟨g, 0, none⟩) 0 0) := c2
  have c0 : w.cell? ⟨b, 1, none⟩ = some (.slice (some ⟨g, 0, none⟩) 0 0) := c1
  have mixed : Try.prog.follows Departure.mixedOrders = true := by kernel_rfl
  go_enter Try.func56, Try.ntmps56
  go_wp2
  go_region_o
  all_goals (go_wp2; go_ret; exact ⟨rfl, (Below.drew (Below.refl B w)).alloc hBw _⟩)
set_option maxHeartbeats 2000000 in
set_option maxRecDepth 100000 in
theorem bstr_room (B b g cap : Nat) (p : Value) (w : World) (hc0 : cap ≠ 0) (hbk : w.heap[b]? = some (.cells #[p, .slice (some ⟨g, 0, none⟩) 0 cap] 94 (0, 0))) :
    Calls Try.prog 56 #[.pointer (some ⟨b, 0, none⟩)] w fun e w' => e = .returned (.string ⟨#[]⟩) ∧ Below B w w' := by
  have hUS := us_none
  have c1 : w.drew.cell? ⟨b, 1, none⟩ = some (.slice (some ⟨g, 0, none⟩) 0 cap) := by
    have : w.drew.heap[b]? = some (.cells #[p, .slice (some ⟨g, 0, none⟩) 0 cap] 94 (0, 0)) := hbk
    rw [Lib.cell_of_heap this]; rfl
  have hSD : (Builtin.unsafeSliceData_ #[81] 133 #[.slice (some ⟨g, 0, none⟩) 0 cap]).run Try.prog w.drew = .ok (.pointer (some ⟨g, 0, none⟩)) w.drew :=
    Lib.run_unsafeSliceData_row _ _ _ _ _ _ hc0
  clear hc0
  have mixed : Try.prog.follows Departure.mixedOrders = true := by kernel_rfl
  go_enter Try.func56, Try.ntmps56
  go_wp2
  go_region_o
  all_goals (go_wp2; go_ret; exact ⟨rfl, Below.drew (Below.refl B w)⟩)
/-- String: what was written. -/
theorem bstr (B b : Nat) (l : List UInt8) (w : World) (h : Lib.IsBuilder 94 5 B b (Lib.byteCells l) w) (hBw : B ≤ w.heap.size) :
    Calls Try.prog 56 #[.pointer (some ⟨b, 0, none⟩)] w fun e w' => e = .returned (.string ⟨l.toArray⟩) ∧ Below B w w' := by
  cases l with
  | cons x r => exact bstr_some B b (x :: r) w h (by simp)
  | nil =>
    obtain ⟨p, hB, v, hbk, hown, hne⟩ : ∃ p, Lib.BuilderAt 94 5 B b p [] w := by
      rcases h with h | h
      · exact ⟨_, h⟩
      · exact ⟨_, h⟩
    rcases hown.2 with ⟨rfl, _⟩ | ⟨g, cap, cur, rfl, hbg, hg, _, _, _, _⟩
    · exact bstr_nil B b p w hbk
    · by_cases hc0 : cap = 0
      · subst hc0
        exact bstr_noroom B b g p cur w hBw hbk hg
      · exact bstr_room B b g cap p w hc0 hbk
end Go.Proofs.Ytfjhlcbpogihmaa.Pr
namespace Go.Proofs.Ytfjhlcbpogihmaa.Pr
open Go.RowKit Go.Proofs.YtfjhlcbpogihmaaW.PrintWords Go.Proofs.YtfjhlcbpogihmaaW.PrintLast Go.Proofs.YtfjhlcbpogihmaaW.PrintMore
open Go.Proofs.Ytfjhlcbpogihmaa.Hnd
set_option linter.unusedVariables false
set_option linter.unusedSimpArgs false
/-- The bytes of numbers, behind those that are there. -/
def numsF : List Int → List UInt8 → Option (ByteArray × Int)
  | [], acc => some (⟨acc.toArray⟩, 0)
  | v :: r, acc => (pack_Num.f v).bind fun b => if b.2 = 0 then (if acc.length + b.1.size ≤ 140737488355328 then numsF r (acc ++ b.1.data.toList) else none) else some ((⟨#[]⟩ : ByteArray), b.2)
def pack_Nums.f (l0 : List Int) : Option (ByteArray × Int) := if l0.length ≤ 1048576 then numsF ((l0.length : Int) :: l0) [] else none
theorem infoU8 : (Try.prog.info? 25).map (fun i => (i.zero, i.size, i.bytes)) = some (some (.int .u64 0), 1, 8) := by kernel_rfl
theorem R_keepT {w w' : World} {base : Nat} {ok : Nat → Prop} {v : Value} {xs : List Int} (h : Kd.R (Kd.int .u64) 25 w base ok v xs)
    (hk : ∀ (k : Nat) (cs : Array Value) (t : TypeId) (fz : Nat × Nat), w.heap[k]? = some (Obj.cells cs t fz) → t ≠ 94 → t ≠ 5 → w'.heap[k]? = some (Obj.cells cs t fz)) : Kd.R (Kd.int .u64) 25 w' base ok v xs := by
  refine Kd.R_mono (Kd.R_move (Kd.R_bound h) (fun k hk' => ?_)) (fun _ h => h.1)
  obtain ⟨_, _, _, q, hq, cs, hc⟩ := hk'
  have hq : q = 25 := by
    rcases List.mem_cons.1 hq with h | h
    · exact h
    · exact absurd h (by simp [Kd.int, Kd.scalar])
  subst hq
  rw [hc]
  exact hk k cs _ _ hc (by decide) (by decide)
theorem strCells_of (acc : List UInt8) (s : ByteArray) : Lib.byteCells acc ++ Lib.strCells s = Lib.byteCells (acc ++ s.data.toList) := by
  rw [Lib.strCells_eq]
  simp [Lib.byteCells]
theorem bld_below {B b : Nat} {bs : List Value} {w w' : World} (h : Lib.IsBuilder 94 5 B b bs w) (hb : Below w.heap.size w w') : Lib.IsBuilder 94 5 B b bs w' := by
  have one : ∀ p, Lib.BuilderAt 94 5 B b p bs w → Lib.BuilderAt 94 5 B b p bs w' := by
    rintro p ⟨h1, v, h2, h3, h4⟩
    refine ⟨h1, v, blk_below h2 hb, ⟨h3.1, ?_⟩, h4⟩
    rcases h3.2 with h | ⟨g, cap, cur, e, hg1, hg2, r⟩
    · exact .inl h
    · exact .inr ⟨g, cap, cur, e, hg1, blk_below hg2 hb, r⟩
  exact h.imp (one _) (one _)
theorem below_trans' {w w1 w2 : World} (h : Below w.heap.size w w1) (h2 : Below w.heap.size w1 w2) : Below w.heap.size w w2 := h.trans h2
set_option maxHeartbeats 4000000 in
set_option maxRecDepth 100000 in
theorem pack_Nums.calls (A0 : Option Addr) (c0 : Nat) (l0 : List Int) (r1 : ByteArray) (r2 : Int) (w : World) (hr0 : Kd.C (Kd.int .u64) w A0 l0.length l0) (hc0 : l0.length ≤ c0) (h : pack_Nums.f l0 = some (r1, r2)) :
    Calls Try.prog 46 #[.slice A0 l0.length c0] w fun e w' => e = .returned (.tuple #[.string r1, .int .i64 r2]) ∧ Below w.heap.size w w' := by
  unfold pack_Nums.f at h
  by_cases hl : l0.length ≤ 1048576
  rotate_left
  · rw [if_neg hl] at h; cases h
  rw [if_pos hl] at h
  have HR := Aside0.mk hr0
  have HL := Aside0.mk hl
  have HF := Aside0.mk h
  have hwl : IntKind.u64.wrap (l0.length : Int) = (l0.length : Int) := by simp [IntKind.wrap, IntKind.signed, IntKind.bits]; omega
  obtain ⟨L, hL⟩ : ∃ L, [(l0.length : Int)] ++ l0 = L := ⟨_, rfl⟩
  have HF := Aside0.mk (show numsF L [] = some (r1, r2) by rw [← hL]; exact HF.out)
  have HLL := Aside0.mk (show L.length ≤ 1048577 by rw [← hL, List.length_append, List.length_singleton]; omega)
  have HE := Aside0.mk hL
  have BK0 := Aside0.mk (blk_new w (.cells #[.pointer none, .slice none 0 0] 94))
  have HR1 := Aside0.mk (Kd.C_alloc HR.out (.cells #[.pointer none, .slice none 0 0] 94))
  have HB0 := Aside0.mk (below_alloc (Below.refl w.heap.size w) (.cells #[.pointer none, .slice none 0 0] 94))
  clear hr0 hc0 hl h hL HR
  go_enter Try.func46, Try.ntmps46
  go_wp2_with (first
    | ((with_reducible refine gate_dst (N := 12) rfl ?_); refine Kd.R_lit (Kd.int .u64) (w0 := w) w.heap.size 25 ?hg (N := 12) ?hd (xs := ([(l0.length : Int)] : List Int)) (inner := [.int .u64 (l0.length : Int)]) (ok := fun k => k ≠ w.heap.size) (okp := fun k => k ≠ w.heap.size) ?hr ?hp (fun _ hk => hk) ?hf HB0.out HB0.out.size (by simp) ?_; (case hd => rfl); (case hg => rfl); (case hr => first | (go_simp; done) | (go_simp; rfl)); (case hp => exact (Reps.one (show Kd.M (Kd.int .u64) _ _ _ (l0.length : Int) [.int .u64 (l0.length : Int)] from rfl) (Reps.none _ _))); (case hf => rw [World.size_alloc]; omega); intro v1 w1 ho hb hg_ hnew_; have HO := Aside0.mk ho; have HB1 := Aside0.mk hb; have HR2 := Aside0.mk (Kd.C_below HR1.out (Below.grown (Below.refl _ _) hg_ (Nat.le_refl _) (fun k hk => by cases hk))); have BK1 := Aside0.mk ((hg_.block w.heap.size (by rw [World.size_alloc]; omega) (by simp)).trans BK0.out); have HN1 := Aside0.mk hnew_; clear ho hb hg_ hnew_)
    | ((with_reducible refine gate_builtin (b := .append) (xs := #[.tmp 12, .tmp 13]) rfl ?_); (try (refine gate_guard (by rfl) ?_; dsimp only)); at_builtin; refine Kd.R_append_rows (Kd.int .u64) (w0 := w) w.heap.size rfl (.tmp 12) (.tmp 13) 79 25 (.int .u64 0) 8 rfl Try.underlying79 infoU8 rfl (by decide) (by omega) _ ([(l0.length : Int)] : List Int) l0 _ _ _ (fun k => k ≠ w.heap.size) (fun _ => False) rfl rfl ?aO ?aR (fun _ _ h => h) (fun _ h => h.elim) ?aF ?aB ?aS ?aL ?_; (case aR => exact HR2.out); (case aF => exact fun k hk => by have := blk_lt BK1.out; omega); (case aB => exact HB1.out); (case aO => exact HO.out); (case aS => exact HB1.out.size); (case aL => have := HL.out; simp only [List.length_singleton]; omega); intro v2 w2 ho hb hg hat; rw [HE.out] at ho; obtain ⟨A2, c2, rfl⟩ := Kd.R_slice ho; have HO2 := Aside0.mk ho; have HB2 := Aside0.mk hb; have BK2 := Aside0.mk ((hg.block w.heap.size (blk_lt BK1.out) (show some w.heap.size ≠ v1.ownBlock from by obtain ⟨b', hb1, hb2⟩ := HN1.out; rw [hb1]; rw [World.size_alloc] at hb2; intro e; injection e with e; omega)).trans BK1.out); clear ho hb hg hat))
  have HBD := Aside0.mk (show Lib.IsBuilder 94 5 w.heap.size w.heap.size (Lib.byteCells []) w2 from .inl ⟨Nat.le_refl _, _, BK2.out, World.ownsRow_nil _ _ _ _, by simp [Value.ownBlock]⟩)
  clear HO HB1 HR2 BK1 HN1 BK0 HR1 HB0 BK2 HE
  go_loopg [6, 7, 8, 16] L.length (fun g v6 v7 v8 v16 wr => ∃ (i : Nat) (acc : List UInt8), v16 = .int .i64 (i : Int) ∧ Aside0 (i ≤ L.length ∧ L.length - i ≤ g) ∧ Aside0 (numsF (L.drop i) acc = some (r1, r2)) ∧ Aside0 (Kd.R (Kd.int .u64) 25 wr w.heap.size (fun k => k ≠ w.heap.size) (.slice A2 L.length c2) L) ∧ Aside0 (Lib.IsBuilder 94 5 w.heap.size w.heap.size (Lib.byteCells acc) wr) ∧ Aside0 (Below w.heap.size w wr))
  case atStart => exact ⟨0, [], rfl, ⟨by omega⟩, HF, HO2, HBD, HB2⟩
  case round =>
    clear HF HO2 HBD HB2
    obtain ⟨i, acc, rfl, HI, HT, HO, HD, HB⟩ := hrel
    by_cases hlt : (i : Int) < (L.length : Int)
    · have hltb := decide_eq_true hlt
      obtain ⟨ad, hA, e0⟩ := Kd.at_int (Kd.R_reads' HO.out).2.2 (i : Int) (by omega) hlt
      subst hA
      simp only [Int.toNat_natCast] at e0
      have hT := HT.out
      rw [List.drop_eq_getElem_cons (show i < L.length by omega)] at hT
      have hx : rd L (i : Int) = L[i] := by
        unfold rd
        simp [List.getD_eq_getElem?_getD, show i < L.length by omega]
      rw [← hx] at hT
      obtain ⟨x, hxx⟩ : ∃ x, rd L (i : Int) = x := ⟨_, rfl⟩
      rw [hxx] at hT e0
      unfold numsF at hT
      replace hT := Option.bind_eq_some_iff.mp hT
      obtain ⟨⟨s, er⟩, hN, hT⟩ := hT
      have HN := Aside0.mk hN
      clear hN hx hxx HT
      dsimp only at hT
      by_cases her : er = 0
      · rw [if_pos her] at hT
        by_cases hsz : acc.length + s.size ≤ 140737488355328
        rotate_left
        · rw [if_neg hsz] at hT; cases hT
        rw [if_pos hsz] at hT
        have HT := Aside0.mk hT
        have hneb : (er != 0) = false := by rw [her]; rfl
        have HS := Aside0.mk hsz
        clear hT hsz
        subst her
        go_wp2_with fail
        refine (pack_Num.calls x s 0 _ HN.out).mono ?_
        rintro e w1 ⟨rfl, hb⟩
        have HB1 := Aside0.mk (below_call HB.out hb)
        have HO1 := Aside0.mk (Kd.R_below HO.out hb)
        have HD1 := Aside0.mk (bld_below HD.out hb)
        clear hb e0
        go_wp2_with fail
        refine (bws w.heap.size w.heap.size (Lib.byteCells acc) s w1 HD1.out (by rw [Lib.byteCells_length]; exact HS.out) HB1.out.size).mono ?_
        rintro e w2 ⟨rfl, hd, hb, hk⟩
        have HB2 := Aside0.mk (below_trans' HB1.out hb)
        have HO2 := Aside0.mk (R_keepT HO1.out hk)
        have HD2 := Aside0.mk (show Lib.IsBuilder 94 5 w.heap.size w.heap.size (Lib.byteCells (acc ++ s.data.toList)) w2 from .inr (by rw [← strCells_of]; exact hd))
        clear hd hb hk
        go_wp2_with fail
        go_roundg (gk - 1)
        case measure => have := HI.out; omega
        case rel => exact ⟨i + 1, acc ++ s.data.toList, by rw [show wrap64 ((i : Int) + 1) = ((i + 1 : Nat) : Int) from by have := HLL.out; simp [wrap64]; omega], ⟨by have := HI.out; omega⟩, HT, HO2, HD2, HB2⟩
      · rw [if_neg her] at hT
        simp only [Option.some.injEq, Prod.mk.injEq] at hT
        obtain ⟨rfl, rfl⟩ := hT
        have hneb : (er != 0) = true := bne_iff_ne.mpr her
        go_wp2_with fail
        refine (pack_Num.calls x s er _ HN.out).mono ?_
        rintro e w1 ⟨rfl, hb⟩
        have HB1 := Aside0.mk (below_call HB.out hb)
        clear hb e0
        go_wp2_with fail
        go_ret2
        exact ⟨rfl, HB1.out⟩
    · have hltb := decide_eq_false hlt
      have hie : i = L.length := by have := HI.out; omega
      have hT := HT.out
      rw [hie, List.drop_length] at hT
      unfold numsF at hT
      simp only [Option.some.injEq, Prod.mk.injEq] at hT
      obtain ⟨rfl, rfl⟩ := hT
      clear HT hie
      go_wp2_with fail
      refine (bstr w.heap.size w.heap.size acc _ HD.out HB.out.size).mono ?_
      rintro e w1 ⟨rfl, hb⟩
      have HB1 := Aside0.mk (below_trans' HB.out hb)
      clear hb
      go_wp2_with fail
      go_ret2
      exact ⟨rfl, HB1.out⟩
end Go.Proofs.Ytfjhlcbpogihmaa.Pr
namespace Go.Proofs.Ytfjhlcbpogihmaa.Pr
open Go.RowKit Go.Proofs.YtfjhlcbpogihmaaW.PrintWords Go.Proofs.YtfjhlcbpogihmaaW.PrintLast Go.Proofs.YtfjhlcbpogihmaaW.PrintMore
attribute [local go_sem] max2_int max_four
set_option linter.unusedVariables false
set_option linter.unusedSimpArgs false
/-! ### post_headOf: function 57 -/
def post_headOf.f (a0_0 : Int) (a0_1 : Int) (a0_2 : Int) (a0_3 : Int) (a0_4 : Int) (a0_5 : Int) (a0_6 : Int) (a0_7 : Bool) (l0_8 : List (S75)) (a0_9 : ByteArray) : Option (Int × Int × Int × Int × Int × Int × Int × Bool × ByteArray) := some (IntKind.u64.wrap (a0_0), a0_1, a0_2, a0_3, a0_4, a0_5, a0_6, a0_7, a0_9)
set_option maxHeartbeats 8000000 in
set_option maxRecDepth 100000 in
theorem post_headOf.calls (a0_0 : Int) (a0_1 : Int) (a0_2 : Int) (a0_3 : Int) (a0_4 : Int) (a0_5 : Int) (a0_6 : Int) (a0_7 : Bool) (A0_8 : Option Addr) (c0_8 : Nat) (l0_8 : List (S75)) (a0_9 : ByteArray) (r1 : Int) (r2 : Int) (r3 : Int) (r4 : Int) (r5 : Int) (r6 : Int) (r7 : Int) (r8 : Bool) (r9 : ByteArray) (w : World) (hr0_8 : Kd.C k75 w A0_8 l0_8.length l0_8) (hc0_8 : l0_8.length ≤ c0_8) (h : post_headOf.f a0_0 a0_1 a0_2 a0_3 a0_4 a0_5 a0_6 a0_7 l0_8 a0_9 = some (r1, r2, r3, r4, r5, r6, r7, r8, r9)) :
    Calls Try.prog 57 #[.agg #[.int .i64 a0_0, .int .u64 a0_1, .int .u64 a0_2, .int .u64 a0_3, .int .u64 a0_4, .int .u64 a0_5, .int .u64 a0_6, .bool a0_7, .slice A0_8 l0_8.length c0_8, .string a0_9]] w fun e w' => e = .returned (.agg #[.int .u64 r1, .int .u64 r2, .int .u64 r3, .int .u64 r4, .int .u64 r5, .int .u64 r6, .int .u64 r7, .bool r8, .string r9]) ∧ Below w.heap.size w w' := by
  have hu57 := Try.underlying57
  have hu101 := Try.underlying101
  have HR0_8 := Aside0.mk hr0_8
  have HC0_8 := Aside0.mk hc0_8
  clear hr0_8 hc0_8
  have HB := Aside0.mk (Below.refl w.heap.size w)
  have H : (some (IntKind.u64.wrap (a0_0), a0_1, a0_2, a0_3, a0_4, a0_5, a0_6, a0_7, a0_9)) = some (r1, r2, r3, r4, r5, r6, r7, r8, r9) := h
  clear h
  simp only [Option.some.injEq, Prod.mk.injEq] at H
  obtain ⟨rfl, rfl, rfl, rfl, rfl, rfl, rfl, rfl, rfl⟩ := H
  go_enter Try.func57, Try.ntmps57
  go_wp2_with (first | ((with_reducible refine gate_dst (N := 1) rfl ?_); refine box_event ?hg (N := 1) ?hd (cs := #[.int .i64 a0_0, .int .u64 a0_1, .int .u64 a0_2, .int .u64 a0_3, .int .u64 a0_4, .int .u64 a0_5, .int .u64 a0_6, .bool a0_7, .slice A0_8 l0_8.length c0_8, .string a0_9]) (t := 57) ?hr ?_; (case hd => rfl); (case hg => rfl); (case hr => first | (go_simp; done) | (go_simp; rfl)); intro gb392 hg w2 hbox hb; have n0_ := Aside0.mk (below_step (by repeat (first | (with_reducible first | exact HB.out | apply below_alloc | apply pw_below_drewN | apply below_drew1) | exact HB.out | exact Below.refl _ _)) hb); have n1_ := Aside0.mk (hbox); have n2_ := Aside0.mk ((by rw [hg]; exact (below_size (by repeat (first | (with_reducible first | exact HB.out | apply below_alloc | apply pw_below_drewN | apply below_drew1) | exact HB.out))) : w.heap.size ≤ gb392)); have n3_ := Aside0.mk ((by rw [hg]; exact (below_size (by repeat (first | (with_reducible first | exact HB.out | apply below_alloc | apply pw_below_drewN | apply below_drew1) | exact HB.out))) : w.heap.size ≤ gb392)); clear HB; have HB := n0_; have BK392 := n1_; have GW392 := n2_; have GE392 := n3_; clear n0_ n1_ n2_ n3_; clear hb hbox hg) | ((with_reducible refine gate_dst (N := 2) rfl ?_); refine box_event ?hg (N := 2) ?hd (cs := #[.int .u64 0, .int .u64 0, .int .u64 0, .int .u64 0, .int .u64 0, .int .u64 0, .int .u64 0, .bool false, .string (⟨#[]⟩ : ByteArray)]) (t := 101) ?hr ?_; (case hd => rfl); (case hg => rfl); (case hr => first | (go_simp; done) | (go_simp; rfl)); intro gb393 hg w3 hbox hb; have n0_ := Aside0.mk (blk_below (g := gb392) (o := .cells #[.int .i64 a0_0, .int .u64 a0_1, .int .u64 a0_2, .int .u64 a0_3, .int .u64 a0_4, .int .u64 a0_5, .int .u64 a0_6, .bool a0_7, .slice A0_8 l0_8.length c0_8, .string a0_9] 57 (0, 0)) (by (with_reducible repeat (first | refine blk_drewN ?_ _ | refine blk_drew ?_ | refine blk_alloc ?_ _)); exact BK392.out) hb); have n1_ := Aside0.mk (below_step (by repeat (first | (with_reducible first | exact HB.out | apply below_alloc | apply pw_below_drewN | apply below_drew1 | refine below_set ?_ GE392.out) | exact HB.out | exact Below.refl _ _)) hb); have n2_ := Aside0.mk (hbox); have n3_ := Aside0.mk ((by rw [hg]; exact (below_size (by repeat (first | (with_reducible first | exact HB.out | apply below_alloc | apply pw_below_drewN | apply below_drew1 | refine below_set ?_ GE392.out) | exact HB.out))) : w.heap.size ≤ gb393)); have n4_ := Aside0.mk ((by rw [hg]; exact (below_size (by repeat (first | (with_reducible first | exact HB.out | apply below_alloc | apply pw_below_drewN | apply below_drew1 | refine below_set ?_ GE392.out) | exact HB.out))) : w.heap.size ≤ gb393)); have n5_ := Aside0.mk ((by rw [hg]; exact Nat.ne_of_lt (blk_lt (g := gb392) (o := .cells #[.int .i64 a0_0, .int .u64 a0_1, .int .u64 a0_2, .int .u64 a0_3, .int .u64 a0_4, .int .u64 a0_5, .int .u64 a0_6, .bool a0_7, .slice A0_8 l0_8.length c0_8, .string a0_9] 57 (0, 0)) (by (with_reducible repeat (first | refine blk_drewN ?_ _ | refine blk_drew ?_ | refine blk_alloc ?_ _)); exact BK392.out)) : gb392 ≠ gb393)); have n6_ := Aside0.mk ((by rw [hg]; exact Nat.ne_of_gt (blk_lt (g := gb392) (o := .cells #[.int .i64 a0_0, .int .u64 a0_1, .int .u64 a0_2, .int .u64 a0_3, .int .u64 a0_4, .int .u64 a0_5, .int .u64 a0_6, .bool a0_7, .slice A0_8 l0_8.length c0_8, .string a0_9] 57 (0, 0)) (by (with_reducible repeat (first | refine blk_drewN ?_ _ | refine blk_drew ?_ | refine blk_alloc ?_ _)); exact BK392.out)) : gb393 ≠ gb392)); clear BK392; clear HB; have BK392 := n0_; have HB := n1_; have BK393 := n2_; have GW393 := n3_; have GE393 := n4_; have NB392_393 := n5_; have NB393_392 := n6_; clear n0_ n1_ n2_ n3_ n4_ n5_ n6_; clear hb hbox hg; have hnb4 := NB392_393.out; have hnc4 := NB393_392.out; have hcz5_0 : w3.cell? ⟨gb392, 0, none⟩ = some (.int .i64 a0_0) := (blk_cell BK392.out 0).trans rfl; have hcz5_1 : w3.cell? ⟨gb392, 1, none⟩ = some (.int .u64 a0_1) := (blk_cell BK392.out 1).trans rfl; have hcz5_2 : w3.cell? ⟨gb392, 2, none⟩ = some (.int .u64 a0_2) := (blk_cell BK392.out 2).trans rfl; have hcz5_3 : w3.cell? ⟨gb392, 3, none⟩ = some (.int .u64 a0_3) := (blk_cell BK392.out 3).trans rfl; have hcz5_4 : w3.cell? ⟨gb392, 4, none⟩ = some (.int .u64 a0_4) := (blk_cell BK392.out 4).trans rfl; have hcz5_5 : w3.cell? ⟨gb392, 5, none⟩ = some (.int .u64 a0_5) := (blk_cell BK392.out 5).trans rfl; have hcz5_6 : w3.cell? ⟨gb392, 6, none⟩ = some (.int .u64 a0_6) := (blk_cell BK392.out 6).trans rfl; have hcz5_7 : w3.cell? ⟨gb392, 7, none⟩ = some (.bool a0_7) := (blk_cell BK392.out 7).trans rfl; have hcz5_8 : w3.cell? ⟨gb392, 8, none⟩ = some (.slice A0_8 l0_8.length c0_8) := (blk_cell BK392.out 8).trans rfl; have hcz5_9 : w3.cell? ⟨gb392, 9, none⟩ = some (.string a0_9) := (blk_cell BK392.out 9).trans rfl; have hfz5_0 := blk_frozen BK392.out 0; have hfz5_1 := blk_frozen BK392.out 1; have hfz5_2 := blk_frozen BK392.out 2; have hfz5_3 := blk_frozen BK392.out 3; have hfz5_4 := blk_frozen BK392.out 4; have hfz5_5 := blk_frozen BK392.out 5; have hfz5_6 := blk_frozen BK392.out 6; have hfz5_7 := blk_frozen BK392.out 7; have hfz5_8 := blk_frozen BK392.out 8; have hfz5_9 := blk_frozen BK392.out 9; have hcz6_0 : w3.cell? ⟨gb393, 0, none⟩ = some (.int .u64 0) := (blk_cell BK393.out 0).trans rfl; have hcz6_1 : w3.cell? ⟨gb393, 1, none⟩ = some (.int .u64 0) := (blk_cell BK393.out 1).trans rfl; have hcz6_2 : w3.cell? ⟨gb393, 2, none⟩ = some (.int .u64 0) := (blk_cell BK393.out 2).trans rfl; have hcz6_3 : w3.cell? ⟨gb393, 3, none⟩ = some (.int .u64 0) := (blk_cell BK393.out 3).trans rfl; have hcz6_4 : w3.cell? ⟨gb393, 4, none⟩ = some (.int .u64 0) := (blk_cell BK393.out 4).trans rfl; have hcz6_5 : w3.cell? ⟨gb393, 5, none⟩ = some (.int .u64 0) := (blk_cell BK393.out 5).trans rfl; have hcz6_6 : w3.cell? ⟨gb393, 6, none⟩ = some (.int .u64 0) := (blk_cell BK393.out 6).trans rfl; have hcz6_7 : w3.cell? ⟨gb393, 7, none⟩ = some (.bool false) := (blk_cell BK393.out 7).trans rfl; have hcz6_8 : w3.cell? ⟨gb393, 8, none⟩ = some (.string (⟨#[]⟩ : ByteArray)) := (blk_cell BK393.out 8).trans rfl; have hfz6_0 := blk_frozen BK393.out 0; have hfz6_1 := blk_frozen BK393.out 1; have hfz6_2 := blk_frozen BK393.out 2; have hfz6_3 := blk_frozen BK393.out 3; have hfz6_4 := blk_frozen BK393.out 4; have hfz6_5 := blk_frozen BK393.out 5; have hfz6_6 := blk_frozen BK393.out 6; have hfz6_7 := blk_frozen BK393.out 7; have hfz6_8 := blk_frozen BK393.out 8))
  refine bodyPost_ret (results_cell_row rfl _ _ gb393 101 #[.int .u64 (IntKind.u64.wrap (a0_0)), .int .u64 a0_1, .int .u64 a0_2, .int .u64 a0_3, .int .u64 a0_4, .int .u64 a0_5, .int .u64 a0_6, .bool a0_7, .string a0_9] (0, 0) _ rfl (by (with_reducible repeat (first | refine blk_drewN ?_ _ | refine blk_drew ?_ | refine blk_alloc ?_ _)); refine blk_put (cs := #[.int .u64 (IntKind.u64.wrap (a0_0)), .int .u64 a0_1, .int .u64 a0_2, .int .u64 a0_3, .int .u64 a0_4, .int .u64 a0_5, .int .u64 a0_6, .bool a0_7, .string (⟨#[]⟩ : ByteArray)]) ?_ 8 _ rfl; (with_reducible repeat (first | refine blk_drewN ?_ _ | refine blk_drew ?_ | refine blk_alloc ?_ _)); refine blk_put (cs := #[.int .u64 (IntKind.u64.wrap (a0_0)), .int .u64 a0_1, .int .u64 a0_2, .int .u64 a0_3, .int .u64 a0_4, .int .u64 a0_5, .int .u64 a0_6, .bool false, .string (⟨#[]⟩ : ByteArray)]) ?_ 7 _ rfl; (with_reducible repeat (first | refine blk_drewN ?_ _ | refine blk_drew ?_ | refine blk_alloc ?_ _)); refine blk_put (cs := #[.int .u64 (IntKind.u64.wrap (a0_0)), .int .u64 a0_1, .int .u64 a0_2, .int .u64 a0_3, .int .u64 a0_4, .int .u64 a0_5, .int .u64 0, .bool false, .string (⟨#[]⟩ : ByteArray)]) ?_ 6 _ rfl; (with_reducible repeat (first | refine blk_drewN ?_ _ | refine blk_drew ?_ | refine blk_alloc ?_ _)); refine blk_put (cs := #[.int .u64 (IntKind.u64.wrap (a0_0)), .int .u64 a0_1, .int .u64 a0_2, .int .u64 a0_3, .int .u64 a0_4, .int .u64 0, .int .u64 0, .bool false, .string (⟨#[]⟩ : ByteArray)]) ?_ 5 _ rfl; (with_reducible repeat (first | refine blk_drewN ?_ _ | refine blk_drew ?_ | refine blk_alloc ?_ _)); refine blk_put (cs := #[.int .u64 (IntKind.u64.wrap (a0_0)), .int .u64 a0_1, .int .u64 a0_2, .int .u64 a0_3, .int .u64 0, .int .u64 0, .int .u64 0, .bool false, .string (⟨#[]⟩ : ByteArray)]) ?_ 4 _ rfl; (with_reducible repeat (first | refine blk_drewN ?_ _ | refine blk_drew ?_ | refine blk_alloc ?_ _)); refine blk_put (cs := #[.int .u64 (IntKind.u64.wrap (a0_0)), .int .u64 a0_1, .int .u64 a0_2, .int .u64 0, .int .u64 0, .int .u64 0, .int .u64 0, .bool false, .string (⟨#[]⟩ : ByteArray)]) ?_ 3 _ rfl; (with_reducible repeat (first | refine blk_drewN ?_ _ | refine blk_drew ?_ | refine blk_alloc ?_ _)); refine blk_put (cs := #[.int .u64 (IntKind.u64.wrap (a0_0)), .int .u64 a0_1, .int .u64 0, .int .u64 0, .int .u64 0, .int .u64 0, .int .u64 0, .bool false, .string (⟨#[]⟩ : ByteArray)]) ?_ 2 _ rfl; (with_reducible repeat (first | refine blk_drewN ?_ _ | refine blk_drew ?_ | refine blk_alloc ?_ _)); refine blk_put (cs := #[.int .u64 (IntKind.u64.wrap (a0_0)), .int .u64 0, .int .u64 0, .int .u64 0, .int .u64 0, .int .u64 0, .int .u64 0, .bool false, .string (⟨#[]⟩ : ByteArray)]) ?_ 1 _ rfl; (with_reducible repeat (first | refine blk_drewN ?_ _ | refine blk_drew ?_ | refine blk_alloc ?_ _)); refine blk_put (cs := #[.int .u64 0, .int .u64 0, .int .u64 0, .int .u64 0, .int .u64 0, .int .u64 0, .int .u64 0, .bool false, .string (⟨#[]⟩ : ByteArray)]) ?_ 0 _ rfl; (with_reducible repeat (first | refine blk_drewN ?_ _ | refine blk_drew ?_ | refine blk_alloc ?_ _)); exact BK393.out) Try.underlying101 rfl (by kernel_rfl)) rfl ?_
  exact ⟨by first | rfl | (simp [errW_none, errW_some] <;> rfl) | (simp [*, errW_none, errW_some] <;> rfl), by repeat (first | (with_reducible first | exact HB.out | apply below_alloc | apply pw_below_drewN | apply below_drew1 | refine below_set ?_ GE392.out | refine below_set ?_ GE393.out) | exact HB.out)⟩
/-! ### pack_Text: function 59 -/
def pack_Text.f (a0 : ByteArray) : Option (ByteArray × Int) := if (a0.size : Int) > 4096 then (some ((⟨#[]⟩ : ByteArray), 4)) else ((pack_Num.f (a0.size : Int)).bind fun bt394 => (if bt394.1.size + a0.size ≤ 9223372036854775807 then (some (bt394.1 ++ a0, bt394.2)) else (none)))
set_option maxHeartbeats 8000000 in
set_option maxRecDepth 100000 in
theorem pack_Text.calls (a0 : ByteArray) (r1 : ByteArray) (r2 : Int) (w : World) (h : pack_Text.f a0 = some (r1, r2)) :
    Calls Try.prog 59 #[.string a0] w fun e w' => e = .returned (.tuple #[.string r1, .int .i64 r2]) ∧ Below w.heap.size w w' := by
  have HB := Aside0.mk (Below.refl w.heap.size w)
  have H : (if (a0.size : Int) > 4096 then (some ((⟨#[]⟩ : ByteArray), 4)) else ((pack_Num.f (a0.size : Int)).bind fun bt394 => (if bt394.1.size + a0.size ≤ 9223372036854775807 then (some (bt394.1 ++ a0, bt394.2)) else (none)))) = some (r1, r2) := h
  clear h
  by_cases c2 : (a0.size : Int) > 4096
  · rw [if_pos c2] at H
    have c2b0 : decide (4096 < (a0.size : Int)) = true := decide_eq_true c2
    have c2b1 : decide (4096 < a0.size) = true := decide_eq_true (by omega)
    clear c2
    simp only [Option.some.injEq, Prod.mk.injEq] at H
    obtain ⟨rfl, rfl⟩ := H
    go_enter Try.func59, Try.ntmps59
    go_wp2
    go_ret2
    exact ⟨by first | rfl | (simp [errW_none, errW_some] <;> rfl) | (simp [*, errW_none, errW_some] <;> rfl), by repeat (first | (with_reducible first | exact HB.out | apply below_alloc | apply pw_below_drewN | apply below_drew1) | exact HB.out)⟩
  · rw [if_neg c2] at H
    have c2b0 : decide (4096 < (a0.size : Int)) = false := decide_eq_false c2
    have c2b1 : decide (4096 < a0.size) = false := decide_eq_false (by omega)
    clear c2
    replace H := Option.bind_eq_some_iff.mp H
    obtain ⟨⟨t394, t395⟩, A30, H⟩ := H
    replace H : (if t394.size + a0.size ≤ 9223372036854775807 then (some (t394 ++ a0, t395)) else (none)) = some (r1, r2) := H
    have A3 := Aside0.mk A30
    clear A30
    by_cases c4 : t394.size + a0.size ≤ 9223372036854775807
    · rw [if_pos c4] at H
      have c4b0 := eq_true c4
      have c4b1 : decide (t394.size + a0.size ≤ 9223372036854775807) = true := decide_eq_true c4
      try have c4b2 : (9223372036854775807 < t394.size + a0.size) = False := eq_false (Nat.not_lt.2 c4)
      simp only [Option.some.injEq, Prod.mk.injEq] at H
      obtain ⟨rfl, rfl⟩ := H
      go_enter Try.func59, Try.ntmps59
      go_wp2_with (first | ((with_reducible refine gate_callee (f := 58) rfl ?_); refine goesL_ (some 13) rfl rfl Try.func58 (by kernel_rfl) rfl #[.int .u64 (a0.size : Int)] rfl (by (try simp only [List.map_toArray, List.map_cons, List.map_nil]); first | done | rfl | (simp only [List.length_drop, List.length_take]; rfl)) ?_; (with_reducible refine (pack_Num.calls (a0.size : Int) t394 t395 _ A3.out).mono ?_); rintro e w5 ⟨rfl, hb⟩; refine ⟨_, rfl, ?_⟩; have n0_ := Aside0.mk (below_step (by repeat (first | (with_reducible first | exact HB.out | apply below_alloc | apply pw_below_drewN | apply below_drew1) | exact HB.out | exact Below.refl _ _)) hb); clear HB; have HB := n0_; clear n0_; (try clear hb); (try clear hb2); (try clear hk); (try clear hi)))
      go_ret2
      exact ⟨by first | rfl | (simp [errW_none, errW_some] <;> rfl) | (simp [*, errW_none, errW_some] <;> rfl), by repeat (first | (with_reducible first | exact HB.out | apply below_alloc | apply pw_below_drewN | apply below_drew1) | exact HB.out)⟩
    · rw [if_neg c4] at H
      exact absurd H (by simp)
end Go.Proofs.Ytfjhlcbpogihmaa.Pr
namespace Go.Proofs.Ytfjhlcbpogihmaa.Pr
open Go.RowKit Go.Proofs.YtfjhlcbpogihmaaW.PrintWords Go.Proofs.YtfjhlcbpogihmaaW.PrintLast Go.Proofs.YtfjhlcbpogihmaaW.PrintMore
open Go.Proofs.Ytfjhlcbpogihmaa.Hnd
set_option linter.unusedVariables false
set_option linter.unusedSimpArgs false
/-- The two halves behind the first n bytes. -/
def half (s : ByteArray) : Nat → Int × Int
  | 0 => (1, 0)
  | n + 1 => (((half s n).1 + bt s n) % 65521, ((half s n).2 + ((half s n).1 + bt s n) % 65521) % 65521)
def sumI (s : ByteArray) : Int := (half s s.size).2 * 65536 + (half s s.size).1
theorem half_range (s : ByteArray) : ∀ n, 0 ≤ (half s n).1 ∧ (half s n).1 < 65521 ∧ 0 ≤ (half s n).2 ∧ (half s n).2 < 65521
  | 0 => by simp [half]
  | n + 1 => by
    simp only [half]
    omega
theorem wrap64_big {x : Int} (h0 : 0 ≤ x) (h1 : x ≤ 4611686018427387905) : wrap64 x = x := by
  simp [wrap64]
  omega
def seal_Sum.f (a0 : ByteArray) : Option Int := if a0.size ≤ 4611686018427387904 then some (sumI a0) else none
set_option maxHeartbeats 1000000 in
set_option maxRecDepth 100000 in
theorem seal_Sum.calls (a0 : ByteArray) (r : Int) (w : World) (h : seal_Sum.f a0 = some r) : Calls Try.prog 79 #[.string a0] w fun e w' => e = .returned (.int .u32 r) ∧ Below w.heap.size w w' := by
  unfold seal_Sum.f at h
  by_cases hs : a0.size ≤ 4611686018427387904
  rotate_left
  · rw [if_neg hs] at h; cases h
  rw [if_pos hs] at h
  obtain rfl := Option.some.inj h
  clear h
  have HS := Aside0.mk hs
  clear hs
  go_enter Try.func79, Try.ntmps79
  go_wp2_with fail
  go_loopg [8] a0.size (fun g v8 wr => ∃ i : Nat, v8 = .int .i64 (i : Int) ∧ Aside0 (i ≤ a0.size ∧ a0.size - i ≤ g) ∧ Aside0 (wr.heap[w.heap.size]? = some (.cells #[.int .u32 (half a0 i).1, .int .u32 (half a0 i).2] 140 (0, 0))) ∧ Aside0 (Below w.heap.size w wr))
  case atStart =>
    refine ⟨0, rfl, ⟨by omega⟩, ⟨?_⟩, ⟨?_⟩⟩
    · exact blk_new w _
    · exact (Below.refl w.heap.size w).alloc (Nat.le_refl _) _
  case round =>
    obtain ⟨i, rfl, HI, HK, HB⟩ := hrel
    obtain ⟨x, y, hxy⟩ : ∃ x y, half a0 i = (x, y) := ⟨_, _, rfl⟩
    have hr := half_range a0 i
    rw [hxy] at HK hr
    have kb := fun o => blk_cell HK.out o
    have fb := fun o => blk_frozen HK.out o
    have zb := blk_lt HK.out
    have kb0 := kb 0
    have kb1 := kb 1
    by_cases hlt : (i : Int) < a0.size
    · have hltb := decide_eq_true hlt
      have hnat : i < a0.size := by omega
      have hbt : ((a0[i]'hnat).toNat : Int) = bt a0 i := bt_at a0 (i : Int) hnat
      have hbr := bt_range a0 i
      have hm1 : (x + bt a0 i) % 4294967296 % 65521 = (x + bt a0 i) % 65521 := by omega
      have hm2 : (y + (x + bt a0 i) % 65521) % 4294967296 % 65521 = (y + (x + bt a0 i) % 65521) % 65521 := by omega
      go_upto_region 5 with (fail)
      go_region
      have HK1 := Aside0.mk (blk_drew (blk_put (cs' := #[.int .u32 ((x + bt a0 i) % 65521), .int .u32 y]) HK.out 0 (.int .u32 ((x + bt a0 i) % 65521)) rfl))
      have HB1 := Aside0.mk ((HB.out.setCell (p := ⟨w.heap.size, 0, none⟩) (Nat.le_refl _) (.int .u32 ((x + bt a0 i) % 65521))).drew)
      clear kb fb zb kb0 kb1 HK HB
      obtain ⟨W1, hW⟩ : ∃ W1, (wr.setCell ⟨w.heap.size, 0, none⟩ (.int .u32 ((x + bt a0 i) % 65521))).drew = W1 := ⟨_, rfl⟩
      rw [hW] at HK1 HB1 ⊢
      clear hW
      obtain ⟨x1, hx1⟩ : ∃ x1, (x + bt a0 i) % 65521 = x1 := ⟨_, rfl⟩
      have hrx : 0 ≤ x1 ∧ x1 < 65521 := by omega
      have HX := Aside0.mk hx1
      rw [hx1] at HK1 hm2 ⊢
      clear hx1 hm1
      have kb := fun o => blk_cell HK1.out o
      have fb := fun o => blk_frozen HK1.out o
      have zb := blk_lt HK1.out
      have kb0 := kb 0
      have kb1 := kb 1
      go_wp2
      go_roundg (gk - 1)
      case measure => have := HI.out; omega
      case rel =>
        have hm3 : (y + x1) % 65521 = (half a0 (i + 1)).2 := by simp only [half, hxy]; rw [HX.out]
        have hm4 : x1 = (half a0 (i + 1)).1 := by simp only [half, hxy]; exact HX.out.symm
        refine ⟨i + 1, ?_, ⟨by have := HI.out; omega⟩, ⟨?_⟩, ⟨?_⟩⟩
        · rw [wrap64_big (by omega) (by have := HS.out; omega)]
          rfl
        · rw [← hm3, ← hm4]
          exact blk_put (cs' := #[.int .u32 x1, .int .u32 ((y + x1) % 65521)]) HK1.out 1 _ rfl
        · exact HB1.out.setCell (p := ⟨w.heap.size, 1, none⟩) (Nat.le_refl _) _
    · have hltb := decide_eq_false hlt
      have hie : i = a0.size := by have := HI.out; omega
      have hor : Go.bits .or .u32 (y * 65536) x = sumI a0 := by
        rw [bits_join .u32 32 (by decide) (fun n h0 h1 => by rw [show IntKind.u32.wrap n = n % 4294967296 by simp [IntKind.wrap, IntKind.bits, IntKind.signed]]; omega) 16 _ _ (by omega) (by omega) (by omega) (by omega) (by omega) (by omega)]
        unfold sumI
        rw [← hie, hxy]
      go_wp2
      go_ret
      exact ⟨rfl, HB.out⟩
end Go.Proofs.Ytfjhlcbpogihmaa.Pr
namespace Go.Proofs.Ytfjhlcbpogihmaa.Pr
open Go.RowKit Go.Proofs.YtfjhlcbpogihmaaW.PrintWords Go.Proofs.YtfjhlcbpogihmaaW.PrintLast Go.Proofs.YtfjhlcbpogihmaaW.PrintMore
attribute [local go_sem] max2_int max_four
set_option linter.unusedVariables false
set_option linter.unusedSimpArgs false
/-! ### seal_tail: function 78 -/
def seal_tail.f (a0 : Int) : Option (ByteArray) := some (strOfNums (([(a0 / 16777216) % 256, (a0 / 65536) % 256, (a0 / 256) % 256, (a0) % 256] : List Int)))
set_option maxHeartbeats 8000000 in
set_option maxRecDepth 100000 in
theorem seal_tail.calls (a0 : Int) (r : ByteArray) (w : World) (h : seal_tail.f a0 = some r) :
    Calls Try.prog 78 #[.int .u32 a0] w fun e w' => e = .returned (.string r) ∧ Below w.heap.size w w' := by
  have HB := Aside0.mk (Below.refl w.heap.size w)
  have H : (some (strOfNums (([(a0 / 16777216) % 256, (a0 / 65536) % 256, (a0 / 256) % 256, (a0) % 256] : List Int)))) = some r := h
  clear h
  obtain ⟨y154, hy154⟩ : ∃ y_ : List Int, y_ = (([(a0 / 16777216) % 256, (a0 / 65536) % 256, (a0 / 256) % 256, (a0) % 256] : List Int)) := ⟨_, rfl⟩
  replace H : (some (strOfNums y154)) = some r := by first | (rw [hy154]; with_reducible exact H) | (have H2_ := (Option.bind_some _ _).symm.trans H; rw [hy154]; with_reducible exact H2_) | (have H2_ := (Option.bind_some _ _).symm.trans H; with_reducible exact H2_) | with_reducible exact H | (rw [hy154]; exact H) | exact H
  have Ny154 := Aside0.mk hy154
  clear hy154
  obtain rfl := Option.some.inj H
  go_enter Try.func78, Try.ntmps78
  go_wp2_with (first | ((with_reducible refine gate_dst (N := 14) rfl ?_); refine Kd.R_lit (Kd.int .u8) _ 5 ?hg (N := 14) ?hd (xs := ([(a0 / 16777216) % 256, (a0 / 65536) % 256, (a0 / 256) % 256, (a0) % 256] : List Int)) (inner := [.int .u8 ((a0 / 16777216) % 256), .int .u8 ((a0 / 65536) % 256), .int .u8 ((a0 / 256) % 256), .int .u8 ((a0) % 256)]) (ok := fun _ => True) (okp := fun _ => True) ?hr ?hp (fun _ hk => hk) trivial (Below.refl _ _) (Nat.le_refl _) (by simp) ?_; (case hd => rfl); (case hg => rfl); (case hr => first | (go_simp; done) | (go_simp; rfl)); (case hp => exact (Reps.one (show Kd.M (Kd.int .u8) _ _ _ ((a0 / 16777216) % 256) [.int .u8 ((a0 / 16777216) % 256)] from rfl) (Reps.one (show Kd.M (Kd.int .u8) _ _ _ ((a0 / 65536) % 256) [.int .u8 ((a0 / 65536) % 256)] from rfl) (Reps.one (show Kd.M (Kd.int .u8) _ _ _ ((a0 / 256) % 256) [.int .u8 ((a0 / 256) % 256)] from rfl) (Reps.one (show Kd.M (Kd.int .u8) _ _ _ ((a0) % 256) [.int .u8 ((a0) % 256)] from rfl) (Reps.none _ _)))))); intro v155 w2 ho3 hb hg_ hnew_; clear hg_ hnew_; (first | rw [← Ny154.out] at ho3 | (simp only [Int.reduceToNat] at ho3; rw [← Ny154.out] at ho3)); have n0_ := Aside0.mk (Kd.R_lower ho3 (below_size (by repeat (first | (with_reducible first | exact HB.out | apply below_alloc | apply pw_below_drewN | apply below_drew1) | exact HB.out)))); have n1_ := Aside0.mk (below_step (by repeat (first | (with_reducible first | exact HB.out | apply below_alloc | apply pw_below_drewN | apply below_drew1) | exact HB.out | exact Below.refl _ _)) hb); clear HB; have HO156 := n0_; have HB := n1_; clear n0_ n1_; clear hb ho3; have hcv4 := own_string (P := Try.prog) Try.underlying81 Try.underlying5 Try.underlying9 (Kd.own_of_R HO156.out)))
  go_ret
  exact ⟨by first | rfl | (simp [errW_none, errW_some] <;> rfl) | (simp [*, errW_none, errW_some] <;> rfl), by repeat (first | (with_reducible first | exact HB.out | apply below_alloc | apply pw_below_drewN | apply below_drew1) | exact HB.out)⟩
/-! ### seal_Put: function 47 -/
def seal_Put.f (a0 : ByteArray) : Option (ByteArray × Int) := if (a0.size : Int) > 65536 then (some ((⟨#[]⟩ : ByteArray), 4)) else ((pack_Num.f (a0.size : Int)).bind fun bt157 => (if bt157.1.size + a0.size ≤ 9223372036854775807 then ((seal_Sum.f (bt157.1 ++ a0)).bind fun t159 => ((seal_tail.f t159).bind fun t160 => (if (bt157.1 ++ a0).size + t160.size ≤ 9223372036854775807 then (some ((bt157.1 ++ a0) ++ t160, bt157.2)) else (none)))) else (none)))
set_option maxHeartbeats 8000000 in
set_option maxRecDepth 100000 in
theorem seal_Put.calls (a0 : ByteArray) (r1 : ByteArray) (r2 : Int) (w : World) (h : seal_Put.f a0 = some (r1, r2)) :
    Calls Try.prog 47 #[.string a0] w fun e w' => e = .returned (.tuple #[.string r1, .int .i64 r2]) ∧ Below w.heap.size w w' := by
  have HB := Aside0.mk (Below.refl w.heap.size w)
  have H : (if (a0.size : Int) > 65536 then (some ((⟨#[]⟩ : ByteArray), 4)) else ((pack_Num.f (a0.size : Int)).bind fun bt157 => (if bt157.1.size + a0.size ≤ 9223372036854775807 then ((seal_Sum.f (bt157.1 ++ a0)).bind fun t159 => ((seal_tail.f t159).bind fun t160 => (if (bt157.1 ++ a0).size + t160.size ≤ 9223372036854775807 then (some ((bt157.1 ++ a0) ++ t160, bt157.2)) else (none)))) else (none)))) = some (r1, r2) := h
  clear h
  by_cases c2 : (a0.size : Int) > 65536
  · rw [if_pos c2] at H
    have c2b0 : decide (65536 < (a0.size : Int)) = true := decide_eq_true c2
    have c2b1 : decide (65536 < a0.size) = true := decide_eq_true (by omega)
    clear c2
    simp only [Option.some.injEq, Prod.mk.injEq] at H
    obtain ⟨rfl, rfl⟩ := H
    go_enter Try.func47, Try.ntmps47
    go_wp2
    go_ret2
    exact ⟨by first | rfl | (simp [errW_none, errW_some] <;> rfl) | (simp [*, errW_none, errW_some] <;> rfl), by repeat (first | (with_reducible first | exact HB.out | apply below_alloc | apply pw_below_drewN | apply below_drew1) | exact HB.out)⟩
  · rw [if_neg c2] at H
    have c2b0 : decide (65536 < (a0.size : Int)) = false := decide_eq_false c2
    have c2b1 : decide (65536 < a0.size) = false := decide_eq_false (by omega)
    clear c2
    replace H := Option.bind_eq_some_iff.mp H
    obtain ⟨⟨t157, t158⟩, A30, H⟩ := H
    replace H : (if t157.size + a0.size ≤ 9223372036854775807 then ((seal_Sum.f (t157 ++ a0)).bind fun t159 => ((seal_tail.f t159).bind fun t160 => (if (t157 ++ a0).size + t160.size ≤ 9223372036854775807 then (some ((t157 ++ a0) ++ t160, t158)) else (none)))) else (none)) = some (r1, r2) := H
    have A3 := Aside0.mk A30
    clear A30
    by_cases c4 : t157.size + a0.size ≤ 9223372036854775807
    · rw [if_pos c4] at H
      have c4b0 := eq_true c4
      have c4b1 : decide (t157.size + a0.size ≤ 9223372036854775807) = true := decide_eq_true c4
      try have c4b2 : (9223372036854775807 < t157.size + a0.size) = False := eq_false (Nat.not_lt.2 c4)
      replace H := Option.bind_eq_some_iff.mp H
      obtain ⟨t159, A50, H⟩ := H
      replace H : ((seal_tail.f t159).bind fun t160 => (if (t157 ++ a0).size + t160.size ≤ 9223372036854775807 then (some ((t157 ++ a0) ++ t160, t158)) else (none))) = some (r1, r2) := H
      have A5 := Aside0.mk A50
      clear A50
      replace H := Option.bind_eq_some_iff.mp H
      obtain ⟨t160, A60, H⟩ := H
      replace H : (if (t157 ++ a0).size + t160.size ≤ 9223372036854775807 then (some ((t157 ++ a0) ++ t160, t158)) else (none)) = some (r1, r2) := H
      have A6 := Aside0.mk A60
      clear A60
      by_cases c7 : (t157 ++ a0).size + t160.size ≤ 9223372036854775807
      · rw [if_pos c7] at H
        have c7b0 := eq_true c7
        have c7b1 : decide ((t157 ++ a0).size + t160.size ≤ 9223372036854775807) = true := decide_eq_true c7
        try have c7b2 : (9223372036854775807 < (t157 ++ a0).size + t160.size) = False := eq_false (Nat.not_lt.2 c7)
        have c7x : t157.size + a0.size + t160.size ≤ 9223372036854775807 := by have h_ := of_eq_true c7b0; rw [ByteArray.size_append] at h_; exact h_
        have c7x0 := eq_true c7x
        have c7x1 : decide (t157.size + a0.size + t160.size ≤ 9223372036854775807) = true := decide_eq_true c7x
        have c7x2 : (9223372036854775807 < t157.size + a0.size + t160.size) = False := eq_false (Nat.not_lt.2 c7x)
        clear c7x
        simp only [Option.some.injEq, Prod.mk.injEq] at H
        obtain ⟨rfl, rfl⟩ := H
        go_enter Try.func47, Try.ntmps47
        go_wp2_with (first | ((with_reducible refine gate_callee (f := 58) rfl ?_); refine goesL_ (some 13) rfl rfl Try.func58 (by kernel_rfl) rfl #[.int .u64 (a0.size : Int)] rfl (by (try simp only [List.map_toArray, List.map_cons, List.map_nil]); first | done | rfl | (simp only [List.length_drop, List.length_take]; rfl)) ?_; (with_reducible refine (pack_Num.calls (a0.size : Int) t157 t158 _ A3.out).mono ?_); rintro e w8 ⟨rfl, hb⟩; refine ⟨_, rfl, ?_⟩; have n0_ := Aside0.mk (below_step (by repeat (first | (with_reducible first | exact HB.out | apply below_alloc | apply pw_below_drewN | apply below_drew1) | exact HB.out | exact Below.refl _ _)) hb); clear HB; have HB := n0_; clear n0_; (try clear hb); (try clear hb2); (try clear hk); (try clear hi)) | ((with_reducible refine gate_callee (f := 79) rfl ?_); refine goesL_ (some 22) rfl rfl Try.func79 (by kernel_rfl) rfl #[.string (t157 ++ a0)] rfl (by (try simp only [List.map_toArray, List.map_cons, List.map_nil]); first | done | rfl | (simp only [List.length_drop, List.length_take]; rfl)) ?_; (with_reducible refine (seal_Sum.calls (t157 ++ a0) t159 _ A5.out).mono ?_); rintro e w9 ⟨rfl, hb⟩; refine ⟨_, rfl, ?_⟩; have n0_ := Aside0.mk (below_step (by repeat (first | (with_reducible first | exact HB.out | apply below_alloc | apply pw_below_drewN | apply below_drew1) | exact HB.out | exact Below.refl _ _)) hb); clear HB; have HB := n0_; clear n0_; (try clear hb); (try clear hb2); (try clear hk); (try clear hi)) | ((with_reducible refine gate_callee (f := 78) rfl ?_); refine goesL_ (some 23) rfl rfl Try.func78 (by kernel_rfl) rfl #[.int .u32 t159] rfl (by (try simp only [List.map_toArray, List.map_cons, List.map_nil]); first | done | rfl | (simp only [List.length_drop, List.length_take]; rfl)) ?_; (with_reducible refine (seal_tail.calls t159 t160 _ A6.out).mono ?_); rintro e w10 ⟨rfl, hb⟩; refine ⟨_, rfl, ?_⟩; have n0_ := Aside0.mk (below_step (by repeat (first | (with_reducible first | exact HB.out | apply below_alloc | apply pw_below_drewN | apply below_drew1) | exact HB.out | exact Below.refl _ _)) hb); clear HB; have HB := n0_; clear n0_; (try clear hb); (try clear hb2); (try clear hk); (try clear hi)))
        go_ret2
        exact ⟨by first | rfl | (simp [errW_none, errW_some] <;> rfl) | (simp [*, errW_none, errW_some] <;> rfl), by repeat (first | (with_reducible first | exact HB.out | apply below_alloc | apply pw_below_drewN | apply below_drew1) | exact HB.out)⟩
      · rw [if_neg c7] at H
        exact absurd H (by simp)
    · rw [if_neg c4] at H
      exact absurd H (by simp)
end Go.Proofs.Ytfjhlcbpogihmaa.Pr
namespace Go.Proofs.Ytfjhlcbpogihmaa.Pr
open Go.RowKit Go.Proofs.YtfjhlcbpogihmaaW.PrintWords Go.Proofs.YtfjhlcbpogihmaaW.PrintLast Go.Proofs.YtfjhlcbpogihmaaW.PrintMore
attribute [local go_sem] max2_int max_four
set_option linter.unusedVariables false
set_option linter.unusedSimpArgs false
theorem eqA75 (d : Nat) (w : World) (x0 y0 : Int) (x1 y1 : ByteArray) :
    (Op.equalIn (d + 2) 75 (.agg #[.int .u64 x0, .string x1]) (.agg #[.int .u64 y0, .string y1])).run Try.prog w = .ok (x0 == y0 && (x1.toList == y1.toList)) w := by
  refine eqA_of Try.underlying75 (by kernel_rfl) ?_
  refine eqf_cons (by rfl) (by go_simp; rfl) (by go_simp; rfl) (by go_simp) ?_
  exact eqf_last (by rfl) (by go_simp; rfl) (by go_simp; rfl) (by go_simp)
end Go.Proofs.Ytfjhlcbpogihmaa.Pr
namespace Go.Proofs.Ytfjhlcbpogihmaa.Pr
open Go.RowKit Go.Proofs.YtfjhlcbpogihmaaW.PrintWords Go.Proofs.YtfjhlcbpogihmaaW.PrintLast Go.Proofs.YtfjhlcbpogihmaaW.PrintMore
attribute [local go_sem] max2_int max_four
set_option linter.unusedVariables false
set_option linter.unusedSimpArgs false
attribute [local go_sem high] eqA75
/-! ### ferruleref05_Entries: function 91 -/
def ferruleref05_Entries.l0 : Nat → List (S75) → List (S75) → Int → Option (Bool)
  | 0, _, _, _ => none
  | k + 1, x0, x1, x5 => if x5 < (x0.length : Int) then (if 0 ≤ x5 then (if x5 < (x1.length : Int) then (if (!(((rd_T75 x0 x5).f0) == ((rd_T75 x1 x5).f0)) || (!((((rd_T75 x0 x5).f1).toList) == (((rd_T75 x1 x5).f1).toList)))) = true then (some false) else (ferruleref05_Entries.l0 k x0 x1 (wrap64 (x5 + 1)))) else (none)) else (none)) else (some true)
def ferruleref05_Entries.f (k : Nat) (l0 : List (S75)) (l1 : List (S75)) : Option (Bool) := if (l0.length : Int) = (l1.length : Int) then (ferruleref05_Entries.l0 k l0 l1 0) else (some false)
set_option maxHeartbeats 8000000 in
set_option maxRecDepth 100000 in
theorem ferruleref05_Entries.calls (k : Nat) (A0 : Option Addr) (c0 : Nat) (l0 : List (S75)) (A1 : Option Addr) (c1 : Nat) (l1 : List (S75)) (r : Bool) (w : World) (hr0 : Kd.C k75 w A0 l0.length l0) (hc0 : l0.length ≤ c0) (hr1 : Kd.C k75 w A1 l1.length l1) (hc1 : l1.length ≤ c1) (h : ferruleref05_Entries.f k l0 l1 = some r) :
    Calls Try.prog 91 #[.slice A0 l0.length c0, .slice A1 l1.length c1] w fun e w' => e = .returned (.bool r) ∧ Drawn0 w w' := by
  have hu75 := Try.underlying75
  have HR0 := Aside0.mk hr0
  have HC0 := Aside0.mk hc0
  clear hr0 hc0
  have HR1 := Aside0.mk hr1
  have HC1 := Aside0.mk hc1
  clear hr1 hc1
  have H : (if (l0.length : Int) = (l1.length : Int) then (ferruleref05_Entries.l0 k l0 l1 0) else (some false)) = some r := h
  clear h
  by_cases c3 : (l0.length : Int) = (l1.length : Int)
  · rw [if_pos c3] at H
    have c3b0 : ((l0.length : Int) == (l1.length : Int)) = true := beq_iff_eq.mpr c3
    have c3b1 : ((l0.length : Int) != (l1.length : Int)) = false := bne_eq_false_iff_eq.mpr c3
    have c3b2 : (l0.length == l1.length) = true := by first | simpa using c3 | (simp at c3 ⊢; omega)
    clear c3
    have H' := Aside0.mk H
    clear H
    go_enter Try.func91, Try.ntmps91
    go_wp2
    repeat (go_quiet (fail); try go_wp2)
    go_loopg [5] k (fun kq v5 w' => ∃ (x5_1 : Int), v5 = .int .i64 x5_1 ∧ Aside0 (ferruleref05_Entries.l0 kq l0 l1 x5_1 = some r) ∧ Aside0 (kq ≤ k) ∧ Drawn0 w w')
    case atStart => exact ⟨(0), (by first | rfl | (simp; done) | (simp [*]; done)), H', ⟨Nat.le_refl _⟩, by repeat (first | exact Drawn0.refl _ | apply Drawn0.step)⟩
    case round =>
      clear H'
      try clear c1
      try clear p2
      try clear c3
      try clear c3b0
      try clear c3b1
      try clear c3b2
      obtain ⟨x5_1, rfl, HA, HK1, ⟨m1, rfl⟩⟩ := hrel
      cases gk with
      | zero => exact absurd HA.out (by simp [ferruleref05_Entries.l0])
      | succ k1 =>
        have H := HA.out
        clear HA
        simp only [ferruleref05_Entries.l0] at H
        by_cases c4 : x5_1 < (l0.length : Int)
        · rw [if_pos c4] at H
          have c4b0 : decide (x5_1 < (l0.length : Int)) = true := decide_eq_true c4
          clear c4
          by_cases c5 : 0 ≤ x5_1
          · rw [if_pos c5] at H
            have c5b0 : decide (0 ≤ x5_1) = true := decide_eq_true c5
            clear c5
            by_cases c6 : x5_1 < (l1.length : Int)
            · rw [if_pos c6] at H
              have c6b0 : decide (x5_1 < (l1.length : Int)) = true := decide_eq_true c6
              clear c6
              by_cases c7 : (!(((rd_T75 l0 x5_1).f0) == ((rd_T75 l1 x5_1).f0)) || (!((((rd_T75 l0 x5_1).f1).toList) == (((rd_T75 l1 x5_1).f1).toList)))) = true
              · rw [if_pos c7] at H
                have c7b0 : (!(((rd_T75 l0 x5_1).f0) == ((rd_T75 l1 x5_1).f0)) || (!((((rd_T75 l0 x5_1).f1).toList) == (((rd_T75 l1 x5_1).f1).toList)))) = true := c7
                clear c7
                obtain rfl := Option.some.inj H
                have p422 : 0 ≤ (x5_1 : Int) := of_decide_eq_true (by first | (with_reducible assumption) | assumption)
                have q422 : x5_1 < (l0.length : Int) := of_decide_eq_true (by first | (with_reducible assumption) | assumption)
                obtain ⟨ad422, e422, hx422_0, hx422_1⟩ := at_T75 HR0.out x5_1 p422 q422
                cases e422
                replace p422 := eq_true p422
                replace q422 := eq_true q422
                have p423 : 0 ≤ (x5_1 : Int) := of_decide_eq_true (by first | (with_reducible assumption) | assumption)
                have q423 : x5_1 < (l1.length : Int) := of_decide_eq_true (by first | (with_reducible assumption) | assumption)
                obtain ⟨ad423, e423, hx423_0, hx423_1⟩ := at_T75 HR1.out x5_1 p423 q423
                cases e423
                replace p423 := eq_true p423
                replace q423 := eq_true q423
                go_wp2
                repeat (go_quiet (fail); try go_wp2)
                go_ret
                exact ⟨by first | rfl | (simp; done) | (simp [*]; done), by repeat (first | exact Drawn0.refl _ | apply Drawn0.step)⟩
              · rw [if_neg c7] at H
                have c7b0 : (!(((rd_T75 l0 x5_1).f0) == ((rd_T75 l1 x5_1).f0)) || (!((((rd_T75 l0 x5_1).f1).toList) == (((rd_T75 l1 x5_1).f1).toList)))) = false := by simpa using c7
                clear c7
                have H' := Aside0.mk H
                clear H
                have p422 : 0 ≤ (x5_1 : Int) := of_decide_eq_true (by first | (with_reducible assumption) | assumption)
                have q422 : x5_1 < (l0.length : Int) := of_decide_eq_true (by first | (with_reducible assumption) | assumption)
                obtain ⟨ad422, e422, hx422_0, hx422_1⟩ := at_T75 HR0.out x5_1 p422 q422
                cases e422
                replace p422 := eq_true p422
                replace q422 := eq_true q422
                have p423 : 0 ≤ (x5_1 : Int) := of_decide_eq_true (by first | (with_reducible assumption) | assumption)
                have q423 : x5_1 < (l1.length : Int) := of_decide_eq_true (by first | (with_reducible assumption) | assumption)
                obtain ⟨ad423, e423, hx423_0, hx423_1⟩ := at_T75 HR1.out x5_1 p423 q423
                cases e423
                replace p423 := eq_true p423
                replace q423 := eq_true q423
                go_wp2
                repeat (go_quiet (fail); try go_wp2)
                go_roundg k1
                case measure => have := HK1.out; omega
                case rel => exact ⟨(wrap64 (x5_1 + 1)), (by first | rfl | (simp; done) | (simp [*]; done)), H', ⟨by have := HK1.out; omega⟩, by repeat (first | exact Drawn0.refl _ | apply Drawn0.step)⟩
            · rw [if_neg c6] at H
              exact absurd H (by simp)
          · rw [if_neg c5] at H
            exact absurd H (by simp)
        · rw [if_neg c4] at H
          have c4b0 : decide (x5_1 < (l0.length : Int)) = false := decide_eq_false c4
          clear c4
          obtain rfl := Option.some.inj H
          go_wp2
          repeat (go_quiet (fail); try go_wp2)
          go_ret
          exact ⟨by first | rfl | (simp; done) | (simp [*]; done), by repeat (first | exact Drawn0.refl _ | apply Drawn0.step)⟩
  · rw [if_neg c3] at H
    have c3b0 : ((l0.length : Int) == (l1.length : Int)) = false := beq_eq_false_iff_ne.mpr c3
    have c3b1 : ((l0.length : Int) != (l1.length : Int)) = true := bne_iff_ne.mpr c3
    have c3b2 : (l0.length == l1.length) = false := by first | simpa using c3 | (simp at c3 ⊢; omega)
    obtain rfl := Option.some.inj H
    go_enter Try.func91, Try.ntmps91
    go_wp2
    repeat (go_quiet (fail); try go_wp2)
    go_ret
    exact ⟨by first | rfl | (simp; done) | (simp [*]; done), by repeat (first | exact Drawn0.refl _ | apply Drawn0.step)⟩
end Go.Proofs.Ytfjhlcbpogihmaa.Pr
namespace Go.Proofs.Ytfjhlcbpogihmaa.Pr
open Go.RowKit Go.Proofs.YtfjhlcbpogihmaaW.PrintWords Go.Proofs.YtfjhlcbpogihmaaW.PrintLast Go.Proofs.YtfjhlcbpogihmaaW.PrintMore
attribute [local go_sem] max2_int max_four
set_option linter.unusedVariables false
set_option linter.unusedSimpArgs false
/-! ### pack_TakeNum: function 92 -/
def pack_TakeNum.l0 : Nat → ByteArray → Int → Int → Int → Option (Int × ByteArray × Int)
  | 0, _, _, _, _ => none
  | k + 1, x0, x5, x6, x7 => if x7 < x5 then (if 0 ≤ x7 then (if x7 < (x0.size : Int) then (pack_TakeNum.l0 k x0 x5 (Go.bits .or .u64 (IntKind.u64.wrap (x6 * 256)) (IntKind.u64.wrap (bt x0 x7))) (wrap64 (x7 + 1))) else (none)) else (none)) else ((pack_Size.f x6).bind fun t191 => (if t191 = x5 then (if 0 ≤ x5 then (if x5 ≤ (x0.size : Int) then (some (x6, x0.extract (x5 : Int).toNat x0.size, 0)) else (none)) else (none)) else (some (0, (⟨#[]⟩ : ByteArray), 3))))
def pack_TakeNum.f (k : Nat) (a0 : ByteArray) : Option (Int × ByteArray × Int) := if a0.toList = ([] : List UInt8) then (some (0, (⟨#[]⟩ : ByteArray), 2)) else (if 0 < (a0.size : Int) then (if 0 ≤ ((bt a0 0) / 64) then (if (a0.size : Int) < (shl .i64 1 ((bt a0 0) / 64)) then (some (0, (⟨#[]⟩ : ByteArray), 2)) else (pack_TakeNum.l0 k a0 (shl .i64 1 ((bt a0 0) / 64)) (IntKind.u64.wrap (Go.bits .and .u8 (bt a0 0) 63)) 1)) else (none)) else (none))
theorem pack_TakeNum.mono_l : ∀ k, (∀ y0 y1 y2 y3, LeO (pack_TakeNum.l0 k y0 y1 y2 y3) (pack_TakeNum.l0 (k + 1) y0 y1 y2 y3))
  | 0 => fun _ _ _ _ r h => by simp [pack_TakeNum.l0] at h
  | k + 1 => by
    have ih0 := pack_TakeNum.mono_l k
    · intro y0 y1 y2 y3
      unfold pack_TakeNum.l0
      repeat' first
      | (with_reducible exact ih0 _ _ _ _)
      | (with_reducible exact LeO.refl _)
      | (with_reducible exact LeO.none _)
      | (with_reducible refine LeO.ite ?_ ?_)
      | (with_reducible refine LeO.bind ?_ (fun _ => ?_))
      | exact ih0 _ _ _ _
      | exact LeO.none _
      | refine LeO.ite ?_ ?_
      | refine LeO.bind ?_ (fun _ => ?_)
theorem pack_TakeNum.mono : ∀ a0 k, LeO (pack_TakeNum.f k a0) (pack_TakeNum.f (k + 1) a0) := by
  intro a0 k
  have ih0 := pack_TakeNum.mono_l k
  unfold pack_TakeNum.f
  repeat' first
      | (with_reducible exact ih0 _ _ _ _)
      | (with_reducible exact LeO.refl _)
      | (with_reducible exact LeO.none _)
      | (with_reducible refine LeO.ite ?_ ?_)
      | (with_reducible refine LeO.bind ?_ (fun _ => ?_))
      | exact ih0 _ _ _ _
      | exact LeO.none _
      | refine LeO.ite ?_ ?_
      | refine LeO.bind ?_ (fun _ => ?_)
set_option maxHeartbeats 8000000 in
set_option maxRecDepth 100000 in
theorem pack_TakeNum.calls (k : Nat) (a0 : ByteArray) (r1 : Int) (r2 : ByteArray) (r3 : Int) (w : World) (h : pack_TakeNum.f k a0 = some (r1, r2, r3)) :
    Calls Try.prog 92 #[.string a0] w fun e w' => e = .returned (.tuple #[.int .u64 r1, .string r2, .int .i64 r3]) ∧ Drawn0 w w' := by
  have H : (if a0.toList = ([] : List UInt8) then (some (0, (⟨#[]⟩ : ByteArray), 2)) else (if 0 < (a0.size : Int) then (if 0 ≤ ((bt a0 0) / 64) then (if (a0.size : Int) < (shl .i64 1 ((bt a0 0) / 64)) then (some (0, (⟨#[]⟩ : ByteArray), 2)) else (pack_TakeNum.l0 k a0 (shl .i64 1 ((bt a0 0) / 64)) (IntKind.u64.wrap (Go.bits .and .u8 (bt a0 0) 63)) 1)) else (none)) else (none))) = some (r1, r2, r3) := h
  clear h
  by_cases c2 : a0.toList = ([] : List UInt8)
  · rw [if_pos c2] at H
    have c2b0 : (a0.toList == ([] : List UInt8)) = true := beq_iff_eq.mpr c2
    have c2b1 : (a0.toList != ([] : List UInt8)) = false := bne_eq_false_iff_eq.mpr c2
    clear c2
    simp only [Option.some.injEq, Prod.mk.injEq] at H
    obtain ⟨rfl, rfl, rfl⟩ := H
    go_enter Try.func92, Try.ntmps92
    go_wp2
    repeat (go_quiet (fail); try go_wp2)
    go_ret3
    exact ⟨by first | rfl | (simp; done) | (simp [*]; done), by repeat (first | exact Drawn0.refl _ | apply Drawn0.step)⟩
  · rw [if_neg c2] at H
    have c2b0 : (a0.toList == ([] : List UInt8)) = false := beq_eq_false_iff_ne.mpr c2
    have c2b1 : (a0.toList != ([] : List UInt8)) = true := bne_iff_ne.mpr c2
    by_cases c3 : 0 < (a0.size : Int)
    · rw [if_pos c3] at H
      have c3b0 : decide (0 < (a0.size : Int)) = true := decide_eq_true c3
      have c3b1 : decide (0 < a0.size) = true := decide_eq_true (by omega)
      clear c3
      obtain ⟨ji5, hji5⟩ : ∃ j_ : Int, ((bt a0 0) / 64) = j_ := ⟨_, rfl⟩
      replace H : (if 0 ≤ (ji5) then (if (a0.size : Int) < (shl .i64 1 (ji5)) then (some (0, (⟨#[]⟩ : ByteArray), 2)) else (pack_TakeNum.l0 k a0 (shl .i64 1 (ji5)) (IntKind.u64.wrap (Go.bits .and .u8 (bt a0 0) 63)) 1)) else (none)) = some (r1, r2, r3) := by first | (rw [hji5] at H; exact H) | (simp only [hji5] at H ⊢; exact H)
      by_cases c6 : 0 ≤ (ji5)
      · rw [if_pos c6] at H
        have c6b0 := eq_true c6
        have c6b1 : decide (0 ≤ (ji5)) = true := decide_eq_true c6
        clear c6
        obtain ⟨ji7, hji7⟩ : ∃ j_ : Int, (shl .i64 1 (ji5)) = j_ := ⟨_, rfl⟩
        replace H : (if (a0.size : Int) < (ji7) then (some (0, (⟨#[]⟩ : ByteArray), 2)) else (pack_TakeNum.l0 k a0 ji7 (IntKind.u64.wrap (Go.bits .and .u8 (bt a0 0) 63)) 1)) = some (r1, r2, r3) := by first | (rw [hji7] at H; exact H) | (simp only [hji7] at H ⊢; exact H)
        have hji7_ : (IntKind.i64.wrap (1 * 2 ^ min (ji5).toNat 64)) = ji7 := hji7
        have hji7z : (ji5) ≤ 64 → (IntKind.i64.wrap (1 * 2 ^ (ji5).toNat)) = ji7 := shl_small hji7
        have hji7u : (IntKind.i64.wrap (2 ^ min (ji5).toNat 64)) = ji7 := by have h_ := hji7_; rw [Int.one_mul] at h_; exact h_
        have hji7v : (ji5) ≤ 64 → (IntKind.i64.wrap (2 ^ (ji5).toNat)) = ji7 := fun hle_ => by have h_ := hji7z hle_; rw [Int.one_mul] at h_; exact h_
        have hji7y : (wrap64 (1 * 2 ^ min (ji5).toNat 64)) = ji7 := (i64_w _).symm.trans hji7_
        have hji7x : (ji5) ≤ 64 → (wrap64 (1 * 2 ^ (ji5).toNat)) = ji7 := fun h_ => (i64_w _).symm.trans (hji7z h_)
        by_cases c8 : (a0.size : Int) < (ji7)
        · rw [if_pos c8] at H
          have c8b0 : decide ((a0.size : Int) < (ji7)) = true := decide_eq_true c8
          clear c8
          simp only [Option.some.injEq, Prod.mk.injEq] at H
          obtain ⟨rfl, rfl, rfl⟩ := H
          have p4 : 0 ≤ (0 : Int) := (by omega)
          have q4 : 0 < a0.size := (by have : (0 : Int) < (a0.size : Int) := of_decide_eq_true (by first | (with_reducible assumption) | assumption); omega)
          have hx4 : ∀ h : 0 < a0.size, ((a0[0]'h).toNat : Int) = bt a0 0 := bt_at a0 0
          clear p4
          have qi4 : (0 < (a0.size : Int)) = True := eq_true (of_decide_eq_true (by first | (with_reducible assumption) | assumption))
          replace q4 := eq_true q4
          go_enter Try.func92, Try.ntmps92
          go_wp2
          repeat (go_quiet (fail); try go_wp2)
          go_ret3
          exact ⟨by first | rfl | (simp; done) | (simp only [← hji5, ← hji7] <;> (first | rfl | simp)) | (simp [*]; done), by repeat (first | exact Drawn0.refl _ | apply Drawn0.step)⟩
        · rw [if_neg c8] at H
          have c8b0 : decide ((a0.size : Int) < (ji7)) = false := decide_eq_false c8
          clear c8
          have H' := Aside0.mk H
          clear H
          have p4 : 0 ≤ (0 : Int) := (by omega)
          have q4 : 0 < a0.size := (by have : (0 : Int) < (a0.size : Int) := of_decide_eq_true (by first | (with_reducible assumption) | assumption); omega)
          have hx4 : ∀ h : 0 < a0.size, ((a0[0]'h).toNat : Int) = bt a0 0 := bt_at a0 0
          clear p4
          have qi4 : (0 < (a0.size : Int)) = True := eq_true (of_decide_eq_true (by first | (with_reducible assumption) | assumption))
          replace q4 := eq_true q4
          have p9 : 0 ≤ (0 : Int) := (by omega)
          have q9 : 0 < a0.size := (by have : (0 : Int) < (a0.size : Int) := of_decide_eq_true (by first | (with_reducible assumption) | assumption); omega)
          have hx9 : ∀ h : 0 < a0.size, ((a0[0]'h).toNat : Int) = bt a0 0 := bt_at a0 0
          clear p9
          have qi9 : (0 < (a0.size : Int)) = True := eq_true (of_decide_eq_true (by first | (with_reducible assumption) | assumption))
          replace q9 := eq_true q9
          go_enter Try.func92, Try.ntmps92
          go_wp2
          repeat (go_quiet (fail); try go_wp2)
          go_loopg [6, 7] k (fun kq v6 v7 w' => ∃ (x6_1 : Int) (x7_1 : Int), v6 = .int .u64 x6_1 ∧ v7 = .int .i64 x7_1 ∧ Aside0 (pack_TakeNum.l0 kq a0 ji7 x6_1 x7_1 = some (r1, r2, r3)) ∧ Aside0 (kq ≤ k) ∧ Drawn0 w w')
          case atStart => exact ⟨(IntKind.u64.wrap (Go.bits .and .u8 (bt a0 0) 63)), (1), (by first | rfl | (simp; done) | (simp [*]; done)), (by first | rfl | (simp; done) | (simp [*]; done)), H', ⟨Nat.le_refl _⟩, by repeat (first | exact Drawn0.refl _ | apply Drawn0.step)⟩
          case round =>
            clear H'
            try clear c2
            try clear c2b0
            try clear c2b1
            try clear p2
            try clear c3
            try clear c3b0
            try clear c3b1
            try clear p4
            try clear q4
            try clear hx4
            try clear qi4
            try clear c6
            try clear c6b0
            try clear c6b1
            try clear p6
            try clear c8
            try clear c8b0
            try clear c9
            try clear p9
            try clear q9
            try clear hx9
            try clear qi9
            try clear p4
            try clear p9
            try clear q4
            try clear q9
            obtain ⟨x6_1, x7_1, rfl, rfl, HA, HK1, ⟨m1, rfl⟩⟩ := hrel
            cases gk with
            | zero => exact absurd HA.out (by simp [pack_TakeNum.l0])
            | succ k1 =>
              have H := HA.out
              clear HA
              simp only [pack_TakeNum.l0] at H
              by_cases c10 : x7_1 < ji7
              · rw [if_pos c10] at H
                have c10b0 : decide (x7_1 < ji7) = true := decide_eq_true c10
                clear c10
                by_cases c11 : 0 ≤ x7_1
                · rw [if_pos c11] at H
                  have c11b0 : decide (0 ≤ x7_1) = true := decide_eq_true c11
                  clear c11
                  by_cases c12 : x7_1 < (a0.size : Int)
                  · rw [if_pos c12] at H
                    have c12b0 : decide (x7_1 < (a0.size : Int)) = true := decide_eq_true c12
                    clear c12
                    have H' := Aside0.mk H
                    clear H
                    have p13 : 0 ≤ (x7_1 : Int) := of_decide_eq_true (by first | (with_reducible assumption) | assumption)
                    have q13 : x7_1 < (a0.size : Int) := of_decide_eq_true (by first | (with_reducible assumption) | assumption)
                    have hx13 := bt_at a0 x7_1
                    replace p13 := eq_true p13
                    replace q13 := eq_true q13
                    go_wp2
                    repeat (go_quiet (fail); try go_wp2)
                    go_roundg k1
                    case measure => have := HK1.out; omega
                    case rel => exact ⟨(Go.bits .or .u64 (IntKind.u64.wrap (x6_1 * 256)) (IntKind.u64.wrap (bt a0 x7_1))), (wrap64 (x7_1 + 1)), (by first | rfl | (simp; done) | (simp [*]; done)), (by first | rfl | (simp; done) | (simp [*]; done)), H', ⟨by have := HK1.out; omega⟩, by repeat (first | exact Drawn0.refl _ | apply Drawn0.step)⟩
                  · rw [if_neg c12] at H
                    exact absurd H (by simp)
                · rw [if_neg c11] at H
                  exact absurd H (by simp)
              · rw [if_neg c10] at H
                have c10b0 : decide (x7_1 < ji7) = false := decide_eq_false c10
                clear c10
                replace H := Option.bind_eq_some_iff.mp H
                obtain ⟨t191, A140, H⟩ := H
                replace H : (if t191 = ji7 then (if 0 ≤ ji7 then (if ji7 ≤ (a0.size : Int) then (some (x6_1, a0.extract (ji7 : Int).toNat a0.size, 0)) else (none)) else (none)) else (some (0, (⟨#[]⟩ : ByteArray), 3))) = some (r1, r2, r3) := H
                have A14 := Aside0.mk A140
                clear A140
                by_cases c15 : t191 = ji7
                · rw [if_pos c15] at H
                  have c15b0 : (t191 == ji7) = true := beq_iff_eq.mpr c15
                  have c15b1 : (t191 != ji7) = false := bne_eq_false_iff_eq.mpr c15
                  clear c15
                  by_cases c16 : 0 ≤ ji7
                  · rw [if_pos c16] at H
                    have c16b0 := eq_true c16
                    have c16b1 : decide (0 ≤ ji7) = true := decide_eq_true c16
                    clear c16
                    by_cases c17 : ji7 ≤ (a0.size : Int)
                    · rw [if_pos c17] at H
                      have c17b0 := eq_true c17
                      have c17b1 : decide (ji7 ≤ (a0.size : Int)) = true := decide_eq_true c17
                      clear c17
                      simp only [Option.some.injEq, Prod.mk.injEq] at H
                      obtain ⟨rfl, rfl, rfl⟩ := H
                      go_wp2_with (first | (go_at_call 53; (with_reducible refine (pack_Size.calls x6_1 t191 _ A14.out).mono ?_); rintro e w' ⟨rfl, ⟨nd, rfl⟩⟩; (try first | exact ⟨rfl, _, World.drewN_drewN _ _ _⟩ | exact ⟨rfl, _, Eq.trans (World.drewN_drewN _ _ _) (congrArg (World.drewN _) (Nat.add_assoc _ _ _))⟩)))
                      repeat (go_quiet (first | (go_at_call 53; (with_reducible refine (pack_Size.calls x6_1 t191 _ A14.out).mono ?_); rintro e w' ⟨rfl, ⟨nd, rfl⟩⟩; (try first | exact ⟨rfl, _, World.drewN_drewN _ _ _⟩ | exact ⟨rfl, _, Eq.trans (World.drewN_drewN _ _ _) (congrArg (World.drewN _) (Nat.add_assoc _ _ _))⟩))); try go_wp2_with (first | (go_at_call 53; (with_reducible refine (pack_Size.calls x6_1 t191 _ A14.out).mono ?_); rintro e w' ⟨rfl, ⟨nd, rfl⟩⟩; (try first | exact ⟨rfl, _, World.drewN_drewN _ _ _⟩ | exact ⟨rfl, _, Eq.trans (World.drewN_drewN _ _ _) (congrArg (World.drewN _) (Nat.add_assoc _ _ _))⟩))))
                      go_ret3
                      exact ⟨by first | rfl | (simp; done) | (simp only [← hji5, ← hji7] <;> (first | rfl | simp)) | (simp [*]; done), by repeat (first | exact Drawn0.refl _ | apply Drawn0.step)⟩
                    · rw [if_neg c17] at H
                      exact absurd H (by simp)
                  · rw [if_neg c16] at H
                    exact absurd H (by simp)
                · rw [if_neg c15] at H
                  have c15b0 : (t191 == ji7) = false := beq_eq_false_iff_ne.mpr c15
                  have c15b1 : (t191 != ji7) = true := bne_iff_ne.mpr c15
                  simp only [Option.some.injEq, Prod.mk.injEq] at H
                  obtain ⟨rfl, rfl, rfl⟩ := H
                  go_wp2_with (first | (go_at_call 53; (with_reducible refine (pack_Size.calls x6_1 t191 _ A14.out).mono ?_); rintro e w' ⟨rfl, ⟨nd, rfl⟩⟩; (try first | exact ⟨rfl, _, World.drewN_drewN _ _ _⟩ | exact ⟨rfl, _, Eq.trans (World.drewN_drewN _ _ _) (congrArg (World.drewN _) (Nat.add_assoc _ _ _))⟩)))
                  repeat (go_quiet (first | (go_at_call 53; (with_reducible refine (pack_Size.calls x6_1 t191 _ A14.out).mono ?_); rintro e w' ⟨rfl, ⟨nd, rfl⟩⟩; (try first | exact ⟨rfl, _, World.drewN_drewN _ _ _⟩ | exact ⟨rfl, _, Eq.trans (World.drewN_drewN _ _ _) (congrArg (World.drewN _) (Nat.add_assoc _ _ _))⟩))); try go_wp2_with (first | (go_at_call 53; (with_reducible refine (pack_Size.calls x6_1 t191 _ A14.out).mono ?_); rintro e w' ⟨rfl, ⟨nd, rfl⟩⟩; (try first | exact ⟨rfl, _, World.drewN_drewN _ _ _⟩ | exact ⟨rfl, _, Eq.trans (World.drewN_drewN _ _ _) (congrArg (World.drewN _) (Nat.add_assoc _ _ _))⟩))))
                  go_ret3
                  exact ⟨by first | rfl | (simp; done) | (simp only [← hji5, ← hji7] <;> (first | rfl | simp)) | (simp [*]; done), by repeat (first | exact Drawn0.refl _ | apply Drawn0.step)⟩
      · rw [if_neg c6] at H
        exact absurd H (by simp)
    · rw [if_neg c3] at H
      exact absurd H (by simp)
end Go.Proofs.Ytfjhlcbpogihmaa.Pr
namespace Go.Proofs.Ytfjhlcbpogihmaa.Pr
open Go.RowKit Go.Proofs.YtfjhlcbpogihmaaW.PrintWords Go.Proofs.YtfjhlcbpogihmaaW.PrintLast Go.Proofs.YtfjhlcbpogihmaaW.PrintMore
attribute [local go_sem] max2_int max_four
set_option linter.unusedVariables false
set_option linter.unusedSimpArgs false
/-! ### pack_TakeText: function 93 -/
def pack_TakeText.f (k : Nat) (a0 : ByteArray) : Option (ByteArray × ByteArray × Int) := (pack_TakeNum.f k a0).bind fun bt535 => (if bt535.2.2 = 0 then (if bt535.1 > 4096 then (some ((⟨#[]⟩ : ByteArray), (⟨#[]⟩ : ByteArray), 4)) else (if bt535.1 > (IntKind.u64.wrap ((bt535.2.1.size : Int))) then (some ((⟨#[]⟩ : ByteArray), (⟨#[]⟩ : ByteArray), 2)) else (if 0 ≤ bt535.1 then (if bt535.1 ≤ (bt535.2.1.size : Int) then (some (bt535.2.1.extract 0 (bt535.1 : Int).toNat, bt535.2.1.extract (bt535.1 : Int).toNat bt535.2.1.size, 0)) else (none)) else (none)))) else (some ((⟨#[]⟩ : ByteArray), (⟨#[]⟩ : ByteArray), bt535.2.2)))
set_option maxHeartbeats 8000000 in
set_option maxRecDepth 100000 in
theorem pack_TakeText.calls (k : Nat) (a0 : ByteArray) (r1 : ByteArray) (r2 : ByteArray) (r3 : Int) (w : World) (h : pack_TakeText.f k a0 = some (r1, r2, r3)) :
    Calls Try.prog 93 #[.string a0] w fun e w' => e = .returned (.tuple #[.string r1, .string r2, .int .i64 r3]) ∧ Drawn0 w w' := by
  have H : ((pack_TakeNum.f k a0).bind fun bt535 => (if bt535.2.2 = 0 then (if bt535.1 > 4096 then (some ((⟨#[]⟩ : ByteArray), (⟨#[]⟩ : ByteArray), 4)) else (if bt535.1 > (IntKind.u64.wrap ((bt535.2.1.size : Int))) then (some ((⟨#[]⟩ : ByteArray), (⟨#[]⟩ : ByteArray), 2)) else (if 0 ≤ bt535.1 then (if bt535.1 ≤ (bt535.2.1.size : Int) then (some (bt535.2.1.extract 0 (bt535.1 : Int).toNat, bt535.2.1.extract (bt535.1 : Int).toNat bt535.2.1.size, 0)) else (none)) else (none)))) else (some ((⟨#[]⟩ : ByteArray), (⟨#[]⟩ : ByteArray), bt535.2.2)))) = some (r1, r2, r3) := h
  clear h
  replace H := Option.bind_eq_some_iff.mp H
  obtain ⟨⟨t535, t536, t537⟩, A20, H⟩ := H
  replace H : (if t537 = 0 then (if t535 > 4096 then (some ((⟨#[]⟩ : ByteArray), (⟨#[]⟩ : ByteArray), 4)) else (if t535 > (IntKind.u64.wrap ((t536.size : Int))) then (some ((⟨#[]⟩ : ByteArray), (⟨#[]⟩ : ByteArray), 2)) else (if 0 ≤ t535 then (if t535 ≤ (t536.size : Int) then (some (t536.extract 0 (t535 : Int).toNat, t536.extract (t535 : Int).toNat t536.size, 0)) else (none)) else (none)))) else (some ((⟨#[]⟩ : ByteArray), (⟨#[]⟩ : ByteArray), t537))) = some (r1, r2, r3) := H
  have A2 := Aside0.mk A20
  clear A20
  by_cases c3 : t537 = 0
  · rw [if_pos c3] at H
    have c3b0 : (t537 == 0) = true := beq_iff_eq.mpr c3
    have c3b1 : (t537 != 0) = false := bne_eq_false_iff_eq.mpr c3
    clear c3
    by_cases c4 : t535 > 4096
    · rw [if_pos c4] at H
      have c4b0 : decide (4096 < t535) = true := decide_eq_true c4
      clear c4
      simp only [Option.some.injEq, Prod.mk.injEq] at H
      obtain ⟨rfl, rfl, rfl⟩ := H
      go_enter Try.func93, Try.ntmps93
      go_wp2_with (first | (go_at_call 92; (with_reducible refine (pack_TakeNum.calls k a0 t535 t536 t537 _ A2.out).mono ?_); rintro e w' ⟨rfl, ⟨nd, rfl⟩⟩; (try first | exact ⟨rfl, _, World.drewN_drewN _ _ _⟩ | exact ⟨rfl, _, Eq.trans (World.drewN_drewN _ _ _) (congrArg (World.drewN _) (Nat.add_assoc _ _ _))⟩)))
      repeat (go_quiet (first | (go_at_call 92; (with_reducible refine (pack_TakeNum.calls k a0 t535 t536 t537 _ A2.out).mono ?_); rintro e w' ⟨rfl, ⟨nd, rfl⟩⟩; (try first | exact ⟨rfl, _, World.drewN_drewN _ _ _⟩ | exact ⟨rfl, _, Eq.trans (World.drewN_drewN _ _ _) (congrArg (World.drewN _) (Nat.add_assoc _ _ _))⟩))); try go_wp2_with (first | (go_at_call 92; (with_reducible refine (pack_TakeNum.calls k a0 t535 t536 t537 _ A2.out).mono ?_); rintro e w' ⟨rfl, ⟨nd, rfl⟩⟩; (try first | exact ⟨rfl, _, World.drewN_drewN _ _ _⟩ | exact ⟨rfl, _, Eq.trans (World.drewN_drewN _ _ _) (congrArg (World.drewN _) (Nat.add_assoc _ _ _))⟩))))
      go_ret3
      exact ⟨by first | rfl | (simp; done) | (simp [*]; done), by repeat (first | exact Drawn0.refl _ | apply Drawn0.step)⟩
    · rw [if_neg c4] at H
      have c4b0 : decide (4096 < t535) = false := decide_eq_false c4
      clear c4
      by_cases c5 : t535 > (IntKind.u64.wrap ((t536.size : Int)))
      · rw [if_pos c5] at H
        have c5b0 : decide ((IntKind.u64.wrap ((t536.size : Int))) < t535) = true := decide_eq_true c5
        clear c5
        simp only [Option.some.injEq, Prod.mk.injEq] at H
        obtain ⟨rfl, rfl, rfl⟩ := H
        go_enter Try.func93, Try.ntmps93
        go_wp2_with (first | (go_at_call 92; (with_reducible refine (pack_TakeNum.calls k a0 t535 t536 t537 _ A2.out).mono ?_); rintro e w' ⟨rfl, ⟨nd, rfl⟩⟩; (try first | exact ⟨rfl, _, World.drewN_drewN _ _ _⟩ | exact ⟨rfl, _, Eq.trans (World.drewN_drewN _ _ _) (congrArg (World.drewN _) (Nat.add_assoc _ _ _))⟩)))
        repeat (go_quiet (first | (go_at_call 92; (with_reducible refine (pack_TakeNum.calls k a0 t535 t536 t537 _ A2.out).mono ?_); rintro e w' ⟨rfl, ⟨nd, rfl⟩⟩; (try first | exact ⟨rfl, _, World.drewN_drewN _ _ _⟩ | exact ⟨rfl, _, Eq.trans (World.drewN_drewN _ _ _) (congrArg (World.drewN _) (Nat.add_assoc _ _ _))⟩))); try go_wp2_with (first | (go_at_call 92; (with_reducible refine (pack_TakeNum.calls k a0 t535 t536 t537 _ A2.out).mono ?_); rintro e w' ⟨rfl, ⟨nd, rfl⟩⟩; (try first | exact ⟨rfl, _, World.drewN_drewN _ _ _⟩ | exact ⟨rfl, _, Eq.trans (World.drewN_drewN _ _ _) (congrArg (World.drewN _) (Nat.add_assoc _ _ _))⟩))))
        go_ret3
        exact ⟨by first | rfl | (simp; done) | (simp [*]; done), by repeat (first | exact Drawn0.refl _ | apply Drawn0.step)⟩
      · rw [if_neg c5] at H
        have c5b0 : decide ((IntKind.u64.wrap ((t536.size : Int))) < t535) = false := decide_eq_false c5
        clear c5
        by_cases c6 : 0 ≤ t535
        · rw [if_pos c6] at H
          have c6b0 := eq_true c6
          have c6b1 : decide (0 ≤ t535) = true := decide_eq_true c6
          clear c6
          by_cases c7 : t535 ≤ (t536.size : Int)
          · rw [if_pos c7] at H
            have c7b0 := eq_true c7
            have c7b1 : decide (t535 ≤ (t536.size : Int)) = true := decide_eq_true c7
            clear c7
            have c8b0 := eq_true (of_decide_eq_true (by first | (with_reducible assumption) | assumption) : 0 ≤ t535)
            have c9b0 := eq_true (of_decide_eq_true (by first | (with_reducible assumption) | assumption) : t535 ≤ (t536.size : Int))
            simp only [Option.some.injEq, Prod.mk.injEq] at H
            obtain ⟨rfl, rfl, rfl⟩ := H
            go_enter Try.func93, Try.ntmps93
            go_wp2_with (first | (go_at_call 92; (with_reducible refine (pack_TakeNum.calls k a0 t535 t536 t537 _ A2.out).mono ?_); rintro e w' ⟨rfl, ⟨nd, rfl⟩⟩; (try first | exact ⟨rfl, _, World.drewN_drewN _ _ _⟩ | exact ⟨rfl, _, Eq.trans (World.drewN_drewN _ _ _) (congrArg (World.drewN _) (Nat.add_assoc _ _ _))⟩)))
            repeat (go_quiet (first | (go_at_call 92; (with_reducible refine (pack_TakeNum.calls k a0 t535 t536 t537 _ A2.out).mono ?_); rintro e w' ⟨rfl, ⟨nd, rfl⟩⟩; (try first | exact ⟨rfl, _, World.drewN_drewN _ _ _⟩ | exact ⟨rfl, _, Eq.trans (World.drewN_drewN _ _ _) (congrArg (World.drewN _) (Nat.add_assoc _ _ _))⟩))); try go_wp2_with (first | (go_at_call 92; (with_reducible refine (pack_TakeNum.calls k a0 t535 t536 t537 _ A2.out).mono ?_); rintro e w' ⟨rfl, ⟨nd, rfl⟩⟩; (try first | exact ⟨rfl, _, World.drewN_drewN _ _ _⟩ | exact ⟨rfl, _, Eq.trans (World.drewN_drewN _ _ _) (congrArg (World.drewN _) (Nat.add_assoc _ _ _))⟩))))
            go_ret3
            exact ⟨by first | rfl | (simp; done) | (simp [*]; done), by repeat (first | exact Drawn0.refl _ | apply Drawn0.step)⟩
          · rw [if_neg c7] at H
            exact absurd H (by simp)
        · rw [if_neg c6] at H
          exact absurd H (by simp)
  · rw [if_neg c3] at H
    have c3b0 : (t537 == 0) = false := beq_eq_false_iff_ne.mpr c3
    have c3b1 : (t537 != 0) = true := bne_iff_ne.mpr c3
    simp only [Option.some.injEq, Prod.mk.injEq] at H
    obtain ⟨rfl, rfl, rfl⟩ := H
    go_enter Try.func93, Try.ntmps93
    go_wp2_with (first | (go_at_call 92; (with_reducible refine (pack_TakeNum.calls k a0 t535 t536 t537 _ A2.out).mono ?_); rintro e w' ⟨rfl, ⟨nd, rfl⟩⟩; (try first | exact ⟨rfl, _, World.drewN_drewN _ _ _⟩ | exact ⟨rfl, _, Eq.trans (World.drewN_drewN _ _ _) (congrArg (World.drewN _) (Nat.add_assoc _ _ _))⟩)))
    repeat (go_quiet (first | (go_at_call 92; (with_reducible refine (pack_TakeNum.calls k a0 t535 t536 t537 _ A2.out).mono ?_); rintro e w' ⟨rfl, ⟨nd, rfl⟩⟩; (try first | exact ⟨rfl, _, World.drewN_drewN _ _ _⟩ | exact ⟨rfl, _, Eq.trans (World.drewN_drewN _ _ _) (congrArg (World.drewN _) (Nat.add_assoc _ _ _))⟩))); try go_wp2_with (first | (go_at_call 92; (with_reducible refine (pack_TakeNum.calls k a0 t535 t536 t537 _ A2.out).mono ?_); rintro e w' ⟨rfl, ⟨nd, rfl⟩⟩; (try first | exact ⟨rfl, _, World.drewN_drewN _ _ _⟩ | exact ⟨rfl, _, Eq.trans (World.drewN_drewN _ _ _) (congrArg (World.drewN _) (Nat.add_assoc _ _ _))⟩))))
    go_ret3
    exact ⟨by first | rfl | (simp; done) | (simp [*]; done), by repeat (first | exact Drawn0.refl _ | apply Drawn0.step)⟩
end Go.Proofs.Ytfjhlcbpogihmaa.Pr
namespace Go.Proofs.Ytfjhlcbpogihmaa.Pr
open Go.RowKit Go.Proofs.YtfjhlcbpogihmaaW.PrintWords Go.Proofs.YtfjhlcbpogihmaaW.PrintLast Go.Proofs.YtfjhlcbpogihmaaW.PrintMore
open Go.Proofs.Ytfjhlcbpogihmaa.Hnd
set_option linter.unusedVariables false
set_option linter.unusedSimpArgs false
/-- So many numbers that begin a text, behind those that were taken. -/
def severalF (k : Nat) : Nat → ByteArray → List Int → Option (List Int × ByteArray × Int)
  | 0, s, out => some (out, s, 0)
  | n + 1, s, out => (pack_TakeNum.f k s).bind fun b => if b.2.2 = 0 then (if out.length < 17592186044415 then severalF k n b.2.1 (out ++ [b.1]) else none) else some ([], (⟨#[]⟩ : ByteArray), b.2.2)
def inU (x : Int) : Bool := decide (0 ≤ x) && decide (x < 18446744073709551616)
def pack_TakeNums.f (k : Nat) (a0 : ByteArray) (a1 : Int) : Option (List Int × ByteArray × Int) :=
  (pack_TakeNum.f k a0).bind fun b => if inU b.1 = true then (if b.2.2 = 0 then (if a1 < 0 then some ([], (⟨#[]⟩ : ByteArray), 4) else if b.1 > IntKind.u64.wrap a1 then some ([], (⟨#[]⟩ : ByteArray), 4) else severalF k b.1.toNat b.2.1 []) else some ([], (⟨#[]⟩ : ByteArray), b.2.2)) else none
theorem infoU8s : (Try.prog.info? 25).map (fun i => (i.zero, i.size, i.bytes)) = some (some (.int .u64 0), 1, 8) := by kernel_rfl
set_option maxHeartbeats 4000000 in
set_option maxRecDepth 100000 in
theorem several_calls (k : Nat) (s0 : ByteArray) (n : Nat) (hn : (n : Int) < 18446744073709551616) (r1 : List Int) (r2 : ByteArray) (r3 : Int) (w : World) (h : severalF k n s0 [] = some (r1, r2, r3)) :
    Calls Try.prog 94 #[.string s0, .int .u64 (n : Int), .func (.func 92) #[] #[]] w fun e w' => ∃ v0_ : Value, e = .returned (.tuple #[v0_, .string r2, .int .i64 r3]) ∧ Kd.R (Kd.int .u64) 25 w' w.heap.size (fun _ => True) v0_ r1 ∧ Below w.heap.size w w' := by
  have HF := Aside0.mk h
  have HN := Aside0.mk hn
  clear h hn
  go_enter Try.func94, Try.ntmps94
  go_wp2_with fail
  go_loopg [0, 9, 10, 11, 12, 14] n (fun g v0 v9 v10 v11 v12 v14 wr => ∃ (i : Nat) (s : ByteArray) (out : List Int), v0 = .string s ∧ v14 = .int .u64 (i : Int) ∧ Aside0 (i ≤ n ∧ n - i ≤ g) ∧ Aside0 (severalF k (n - i) s out = some (r1, r2, r3)) ∧ Aside0 (Kd.R (Kd.int .u64) 25 wr w.heap.size (fun _ => True) v9 out) ∧ Aside0 (Below w.heap.size w wr))
  case atStart => exact ⟨0, s0, [], rfl, rfl, ⟨by omega⟩, HF, ⟨Kd.R_nil _ _ _ _ _⟩, ⟨Below.refl _ _⟩⟩
  case round =>
    clear HF
    obtain ⟨i, s, out, rfl, rfl, HI, HT, HO, HB⟩ := hrel
    by_cases hlt : (i : Int) < (n : Int)
    · have hltb := decide_eq_true hlt
      have hT := HT.out
      rw [show n - i = (n - (i + 1)) + 1 from by omega] at hT
      unfold severalF at hT
      replace hT := Option.bind_eq_some_iff.mp hT
      obtain ⟨⟨x, rest, er⟩, hN, hT⟩ := hT
      have HTN := Aside0.mk hN
      clear hN HT
      dsimp only at hT
      have hwi : IntKind.u64.wrap ((i : Int) + 1) = ((i + 1 : Nat) : Int) := by have := HN.out; simp [IntKind.wrap, IntKind.signed, IntKind.bits]; omega
      by_cases her : er = 0
      · rw [if_pos her] at hT
        by_cases hlen : out.length < 17592186044415
        rotate_left
        · rw [if_neg hlen] at hT; cases hT
        rw [if_pos hlen] at hT
        have HT := Aside0.mk hT
        have HLen := Aside0.mk hlen
        have hneb : (er != 0) = false := by rw [her]; rfl
        clear hT hlen
        subst her
        go_wp2_with fail
        refine (pack_TakeNum.calls k s x rest 0 _ HTN.out).mono ?_
        rintro e w1 ⟨rfl, hb0⟩
        have hb := hb0.below
        have HB1 := Aside0.mk (below_call HB.out hb)
        have HO1 := Aside0.mk (Kd.R_below HO.out hb)
        clear hb hb0
        obtain ⟨Ao, co, eo⟩ := Kd.R_slice HO1.out
        subst eo
        go_wp2_with ((with_reducible refine gate_builtin (b := .append) (xs := #[.tmp 26, .tmp 28]) rfl ?_); (try (refine gate_guard (by rfl) ?_; dsimp only)); at_builtin; refine Kd.R_append (Kd.int .u64) (w0 := w) w.heap.size rfl (.tmp 26) (.tmp 28) 79 25 (.int .u64 0) 8 rfl Try.underlying79 infoU8s rfl (by decide) (by omega) _ out x [.int .u64 x] (fun _ => True) (fun _ => False) rfl rfl ?aP (fun _ hk => hk.elim) ?aF ?aO ?aB ?aS ?aL ?_; (case aP => exact rfl); (case aB => exact HB1.out); (case aF => exact (fun _ _ => trivial)); (case aO => exact HO1.out); (case aS => exact HB1.out.size); (case aL => have := HLen.out; omega); intro v4 w4 ho hb hg hat; have HO4 := Aside0.mk ho; have HB4 := Aside0.mk hb; clear ho hb hg hat)
        go_roundg (gk - 1)
        case measure => have := HI.out; omega
        case rel => exact ⟨i + 1, rest, out ++ [x], rfl, by first | rfl | (rw [hwi]), ⟨by have := HI.out; omega⟩, HT, HO4, HB4⟩
      · rw [if_neg her] at hT
        simp only [Option.some.injEq, Prod.mk.injEq] at hT
        obtain ⟨rfl, rfl, rfl⟩ := hT
        have hneb : (er != 0) = true := bne_iff_ne.mpr her
        go_wp2_with fail
        refine (pack_TakeNum.calls k s x rest er _ HTN.out).mono ?_
        rintro e w1 ⟨rfl, hb0⟩
        have HB1 := Aside0.mk (below_call HB.out (hb0.below))
        clear hb0
        go_wp2_with fail
        go_ret3
        exact ⟨_, rfl, Kd.R_nil _ _ _ _ _, HB1.out⟩
    · have hltb := decide_eq_false hlt
      have hie : i = n := by have := HI.out; omega
      have hT := HT.out
      rw [hie, Nat.sub_self] at hT
      unfold severalF at hT
      simp only [Option.some.injEq, Prod.mk.injEq] at hT
      obtain ⟨rfl, rfl, rfl⟩ := hT
      clear HT hie
      go_wp2_with fail
      go_ret3
      exact ⟨_, rfl, HO.out, HB.out⟩
set_option maxHeartbeats 4000000 in
set_option maxRecDepth 100000 in
theorem pack_TakeNums.calls (k : Nat) (a0 : ByteArray) (a1 : Int) (r1 : List Int) (r2 : ByteArray) (r3 : Int) (w : World) (h : pack_TakeNums.f k a0 a1 = some (r1, r2, r3)) :
    Calls Try.prog 83 #[.string a0, .int .i64 a1] w fun e w' => ∃ v0_ : Value, e = .returned (.tuple #[v0_, .string r2, .int .i64 r3]) ∧ Kd.R (Kd.int .u64) 25 w' w.heap.size (fun _ => True) v0_ r1 ∧ Below w.heap.size w w' := by
  unfold pack_TakeNums.f at h
  replace h := Option.bind_eq_some_iff.mp h
  obtain ⟨⟨x, rest, er⟩, hN, h⟩ := h
  dsimp only at h
  by_cases hx : inU x = true
  rotate_left
  · rw [if_neg hx] at h; cases h
  rw [if_pos hx] at h
  have HTN := Aside0.mk hN
  have HX := Aside0.mk hx
  clear hN hx
  by_cases her : er = 0
  · rw [if_pos her] at h
    have hneb : (er != 0) = false := by rw [her]; rfl
    subst her
    by_cases hm : a1 < 0
    · rw [if_pos hm] at h
      simp only [Option.some.injEq, Prod.mk.injEq] at h
      obtain ⟨rfl, rfl, rfl⟩ := h
      have hmb := decide_eq_true hm
      clear hm
      go_enter Try.func83, Try.ntmps83
      go_wp2_with fail
      refine (pack_TakeNum.calls k a0 x rest 0 _ HTN.out).mono ?_
      rintro e w1 ⟨rfl, hb0⟩
      have HB1 := Aside0.mk (hb0.below)
      clear hb0
      go_wp2_with fail
      go_ret3
      exact ⟨_, rfl, Kd.R_nil _ _ _ _ _, HB1.out⟩
    · rw [if_neg hm] at h
      have hmb := decide_eq_false hm
      by_cases hg : x > IntKind.u64.wrap a1
      · rw [if_pos hg] at h
        simp only [Option.some.injEq, Prod.mk.injEq] at h
        obtain ⟨rfl, rfl, rfl⟩ := h
        have hgb : decide (IntKind.u64.wrap a1 < x) = true := decide_eq_true hg
        have hgc : decide (x > IntKind.u64.wrap a1) = true := decide_eq_true hg
        clear hm hg
        go_enter Try.func83, Try.ntmps83
        go_wp2_with fail
        refine (pack_TakeNum.calls k a0 x rest 0 _ HTN.out).mono ?_
        rintro e w1 ⟨rfl, hb0⟩
        have HB1 := Aside0.mk (hb0.below)
        clear hb0
        go_wp2_with fail
        go_ret3
        exact ⟨_, rfl, Kd.R_nil _ _ _ _ _, HB1.out⟩
      · rw [if_neg hg] at h
        have hgb : decide (IntKind.u64.wrap a1 < x) = false := decide_eq_false hg
        have hgc : decide (x > IntKind.u64.wrap a1) = false := decide_eq_false hg
        clear hm hg
        have hx := HX.out
        unfold inU at hx
        rw [Bool.and_eq_true, decide_eq_true_iff, decide_eq_true_iff] at hx
        have HS := Aside0.mk h
        obtain ⟨n, hn⟩ : ∃ n : Nat, x = (n : Int) := ⟨x.toNat, by omega⟩
        subst hn
        rw [Int.toNat_natCast] at HS
        have HN := Aside0.mk hx.2
        clear h hx
        go_enter Try.func83, Try.ntmps83
        go_wp2_with fail
        refine (pack_TakeNum.calls k a0 (n : Int) rest 0 _ HTN.out).mono ?_
        rintro e w1 ⟨rfl, hb0⟩
        have HB1 := Aside0.mk (hb0.below)
        clear hb0
        go_wp2_with fail
        refine (several_calls k rest n HN.out r1 r2 r3 _ HS.out).mono ?_
        rintro e w2 ⟨v2, rfl, ho, hb⟩
        have HB2 := Aside0.mk (below_call HB1.out hb)
        have HO2 := Aside0.mk (Kd.R_lower ho HB1.out.size)
        clear ho hb
        go_wp2_with fail
        go_ret3
        exact ⟨_, rfl, HO2.out, HB2.out⟩
  · rw [if_neg her] at h
    simp only [Option.some.injEq, Prod.mk.injEq] at h
    obtain ⟨rfl, rfl, rfl⟩ := h
    have hneb : (er != 0) = true := bne_iff_ne.mpr her
    go_enter Try.func83, Try.ntmps83
    go_wp2_with fail
    refine (pack_TakeNum.calls k a0 x rest er _ HTN.out).mono ?_
    rintro e w1 ⟨rfl, hb0⟩
    have HB1 := Aside0.mk (hb0.below)
    clear hb0
    go_wp2_with fail
    go_ret3
    exact ⟨_, rfl, Kd.R_nil _ _ _ _ _, HB1.out⟩
end Go.Proofs.Ytfjhlcbpogihmaa.Pr
namespace Go.Proofs.Ytfjhlcbpogihmaa.Pr
open Go.RowKit Go.Proofs.YtfjhlcbpogihmaaW.PrintWords Go.Proofs.YtfjhlcbpogihmaaW.PrintLast Go.Proofs.YtfjhlcbpogihmaaW.PrintMore
theorem chain10 {w : World} {g : Nat} {t : TypeId} {a0 a1 a2 a3 a4 a5 a6 a7 a8 a9 : Value} (h : w.heap[g]? = some (.cells #[a0, a1, a2, a3, a4, a5, a6, a7, a8, a9] t (0, 0))) (b0 b1 b2 b3 b4 b5 b6 b7 b8 b9 : Value) :
    w.setRow g #[b0, b1, b2, b3, b4, b5, b6, b7, b8, b9] = ((((((((((w.setCell ⟨g, 0, none⟩ b0).setCell ⟨g, 1, none⟩ b1).setCell ⟨g, 2, none⟩ b2).setCell ⟨g, 3, none⟩ b3).setCell ⟨g, 4, none⟩ b4).setCell ⟨g, 5, none⟩ b5).setCell ⟨g, 6, none⟩ b6).setCell ⟨g, 7, none⟩ b7).setCell ⟨g, 8, none⟩ b8).setCell ⟨g, 9, none⟩ b9) := by
  have s : ∀ (W : World) (cur : Array Value) (i : Nat) (v : Value), W.heap[g]? = some (.cells cur t (0, 0)) → W.setCell ⟨g, i, none⟩ v = W.setRow g (cur.setIfInBounds i v) ∧ (W.setRow g (cur.setIfInBounds i v)).heap[g]? = some (.cells (cur.setIfInBounds i v) t (0, 0)) := fun W cur i v hW => ⟨setCell_eq_setRow W g i cur t (0, 0) v hW, setRow_heap W g cur _ t _ hW⟩
  obtain ⟨e0, h0⟩ := s w _ 0 b0 h
  rw [e0]
  obtain ⟨e1, h1⟩ := s _ _ 1 b1 h0
  rw [e1]
  obtain ⟨e2, h2⟩ := s _ _ 2 b2 h1
  rw [e2]
  obtain ⟨e3, h3⟩ := s _ _ 3 b3 h2
  rw [e3]
  obtain ⟨e4, h4⟩ := s _ _ 4 b4 h3
  rw [e4]
  obtain ⟨e5, h5⟩ := s _ _ 5 b5 h4
  rw [e5]
  obtain ⟨e6, h6⟩ := s _ _ 6 b6 h5
  rw [e6]
  obtain ⟨e7, h7⟩ := s _ _ 7 b7 h6
  rw [e7]
  obtain ⟨e8, h8⟩ := s _ _ 8 b8 h7
  rw [e8]
  obtain ⟨e9, h9⟩ := s _ _ 9 b9 h8
  rw [e9]
  simp only [setRow_setRow, List.setIfInBounds_toArray, List.set_cons_zero, List.set_cons_succ]
theorem store10 {P : Program} (ty : TypeId) {w : World} {g : Nat} {t : TypeId} {a0 a1 a2 a3 a4 a5 a6 a7 a8 a9 : Value} (h : w.heap[g]? = some (.cells #[a0, a1, a2, a3, a4, a5, a6, a7, a8, a9] t (0, 0))) (hi : (P.info? ty).map (·.size) = some 10) (b0 b1 b2 b3 b4 b5 b6 b7 b8 b9 : Value) (h1 : #[b0, b1, b2, b3, b4, b5, b6, b7, b8, b9].all (·.oneCell') = true) :
    (storeVar ty ⟨g, 0, none⟩ (.agg #[b0, b1, b2, b3, b4, b5, b6, b7, b8, b9])).run P w = .ok () ((((((((((w.setCell ⟨g, 0, none⟩ b0).setCell ⟨g, 1, none⟩ b1).setCell ⟨g, 2, none⟩ b2).setCell ⟨g, 3, none⟩ b3).setCell ⟨g, 4, none⟩ b4).setCell ⟨g, 5, none⟩ b5).setCell ⟨g, 6, none⟩ b6).setCell ⟨g, 7, none⟩ b7).setCell ⟨g, 8, none⟩ b8).setCell ⟨g, 9, none⟩ b9) := by
  rw [← chain10 h]
  exact run_storeVar_row w g t ty _ _ h hi rfl h1
theorem exec_store10 {P : Program} {ev : Operand → Value} {o : Oper} {ty : TypeId} {d s : Operand} {w : World} {g : Nat} {t : TypeId} {a0 a1 a2 a3 a4 a5 a6 a7 a8 a9 : Value} {b0 b1 b2 b3 b4 b5 b6 b7 b8 b9 : Value}
    (ho : o.op = .store ty d s) (hd : ev d = .pointer (some ⟨g, 0, none⟩)) (hs : ev s = .agg #[b0, b1, b2, b3, b4, b5, b6, b7, b8, b9]) (h : w.heap[g]? = some (.cells #[a0, a1, a2, a3, a4, a5, a6, a7, a8, a9] t (0, 0)))
    (hi : (P.info? ty).map (·.size) = some 10) (h1 : (b0.oneCell' && (b1.oneCell' && (b2.oneCell' && (b3.oneCell' && (b4.oneCell' && (b5.oneCell' && (b6.oneCell' && (b7.oneCell' && (b8.oneCell' && (b9.oneCell')))))))))) = true) : Sem.run P (execOp ev o) w = .ok .skip ((((((((((w.setCell ⟨g, 0, none⟩ b0).setCell ⟨g, 1, none⟩ b1).setCell ⟨g, 2, none⟩ b2).setCell ⟨g, 3, none⟩ b3).setCell ⟨g, 4, none⟩ b4).setCell ⟨g, 5, none⟩ b5).setCell ⟨g, 6, none⟩ b6).setCell ⟨g, 7, none⟩ b7).setCell ⟨g, 8, none⟩ b8).setCell ⟨g, 9, none⟩ b9) := by
  unfold execOp
  simp only [ho, hd, hs]
  have := store10 (P := P) ty h hi b0 b1 b2 b3 b4 b5 b6 b7 b8 b9 (by simpa [Bool.and_eq_true, and_assoc] using h1)
  simp only [Instr.storeAt, Instr.sureAddr, Sem.run_bind, Sem.run_pure, Result.andThen_ok, this]
theorem exec_store10r {P : Program} {ev : Operand → Value} {o : Oper} {ty : TypeId} {d s : Operand} {w : World} {g : Nat} {t : TypeId} {a0 a1 a2 a3 a4 a5 a6 a7 a8 a9 : Value} {b0 b1 b2 b3 b4 b5 b6 b7 b8 b9 : Value}
    (ho : o.op = .store ty d s) (hd : ev d = .pointer (some ⟨g, 0, none⟩)) (hs : ev s = .agg #[b0, b1, b2, b3, b4, b5, b6, b7, b8, b9]) (h : w.heap[g]? = some (.cells #[a0, a1, a2, a3, a4, a5, a6, a7, a8, a9] t (0, 0)))
    (hi : (P.info? ty).map (·.size) = some 10) (h1 : (b0.oneCell' && (b1.oneCell' && (b2.oneCell' && (b3.oneCell' && (b4.oneCell' && (b5.oneCell' && (b6.oneCell' && (b7.oneCell' && (b8.oneCell' && (b9.oneCell')))))))))) = true) : Sem.run P (execOp ev o) w = .ok .skip (w.setRow g #[b0, b1, b2, b3, b4, b5, b6, b7, b8, b9]) := by
  rw [chain10 h]
  exact exec_store10 ho hd hs h hi h1
theorem row_blk {w : World} {g g' : Nat} {o : Obj} (h : w.heap[g']? = some o) (hn : g' ≠ g) (c : Array Value) : (w.setRow g c).heap[g']? = some o := (setRow_other w g g' c hn).trans h
theorem row_below {B : Nat} {a w : World} {g : Nat} (h : Below B a w) (hg : B ≤ g) (c : Array Value) : Below B a (w.setRow g c) :=
  h.trans ⟨rfl, rfl, rfl, by simp, fun k hk => setRow_other w g k c (by omega)⟩
theorem row_cell {w : World} {g : Nat} {p : Addr} (hn : p.block ≠ g) (c : Array Value) : (w.setRow g c).cell? p = w.cell? p := by
  unfold World.cell?
  rw [setRow_other w g p.block c hn]
theorem row_R {α : Type} {d : Kd α} {e : Nat} {w : World} {base : Nat} {ok : Nat → Prop} {v : Value} {xs : List α} (h : Kd.R d e w base ok v xs) {g t : Nat} {cells : Array Value} (hb : w.heap[g]? = some (.cells cells t (0, 0))) (ht : ∀ q, q ∈ e :: d.E → q ≠ t) (c : Array Value) : Kd.R d e (w.setRow g c) base ok v xs :=
  Kd.R_mono (Kd.R_step (Kd.R_types h hb ht) (fun k ho _ => setRow_other w g k c ho.2)) (fun _ hk => hk.1)
end Go.Proofs.Ytfjhlcbpogihmaa.Pr
namespace Go.Proofs.Ytfjhlcbpogihmaa.Opn
open Go.ChangeShapes Go.WideShapes Go.Deep Go.RowKit Go.Proofs.YtfjhlcbpogihmaaW.PrintWords
/-- What reads as data at type t is of kind d, and meets Q. -/
def Opn (P : Program) (t : TypeId) {α : Type} (d : Kd α) (Q : α → Prop) : Prop :=
  ∀ {H : Type} (enc : TypeId × Value → H) (W : World) (fuel : Nat) (cs : List Value) (x : DataW H × List MemPlace), DataW.trod enc P W 0 (fun _ => true) true fuel t cs = some x → (∀ n, n ∈ DataW.weights P t x.1 → n ≤ 140737488351232) → ∃ a : α, d.K W a cs ∧ Q a
theorem opn_int {P : Program} {t : TypeId} {k : IntKind} (ht : P.underlying t = some (.int k)) : Opn P t (Kd.int k) (fun n => (Lit.int k n).wf = true) := by
  intro H enc W fuel cs x h _
  obtain ⟨n, rfl, _, hw⟩ := DataW.trod_int ht h
  exact ⟨n, rfl, hw⟩
theorem opn_bool {P : Program} {t : TypeId} (ht : P.underlying t = some .bool) : Opn P t Kd.bool (fun _ => True) := by
  intro H enc W fuel cs x h _
  obtain ⟨n, rfl, _⟩ := DataW.trod_bool ht h
  exact ⟨n, rfl, trivial⟩
theorem opn_string {P : Program} {t : TypeId} (ht : P.underlying t = some .string) : Opn P t Kd.string (fun s => s.size ≤ 140737488351232) := by
  intro H enc W fuel cs x h hn
  obtain ⟨s, rfl, rfl, _⟩ := DataW.trod_string ht h
  refine ⟨s, rfl, ?_⟩
  have := hn s.data.toList.length (by simp only [DataW.weights]; exact List.mem_singleton.2 rfl)
  rw [Array.length_toList] at this
  exact this
theorem mem_weightsAll {H : Type} (P : Program) (e : TypeId) : ∀ (l : List (DataW H)) (d : DataW H), d ∈ l → ∀ n, n ∈ DataW.weights P e d → n ∈ DataW.weightsAll P e l
  | [], _, hd, _, _ => by cases hd
  | x :: r, d, hd, n, hn => by
    simp only [DataW.weightsAll]
    rcases List.mem_cons.1 hd with rfl | hd
    · exact List.mem_append_left _ hn
    · exact List.mem_append_right _ (mem_weightsAll P e r d hd n hn)
theorem cells_get {W : World} {a : Addr} : ∀ {n : Nat} {cs : List Value}, W.cells? 0 a n = some cs → cs.length = n ∧ ∀ i u, cs[i]? = some u → W.cell? (a.add i) = some u := by
  intro n cs h
  simp only [World.cells?, Nat.zero_le, if_true] at h
  refine ⟨by simpa using mapM_some_length h, fun i u hu => ?_⟩
  have hi : i < n := by
    have h1 := (List.getElem?_eq_some_iff.1 hu).1
    have h2 := mapM_some_length h
    simp at h2
    omega
  have := mapM_some_get h i i (by simp [hi])
  rw [hu] at this
  exact this
theorem opn_slice {P : Program} {t e : TypeId} {α : Type} {d : Kd α} {Q : α → Prop} (ht : P.underlying t = some (.slice e)) (hc : P.cellsOf e = d.sz) {B : Nat} (hB : P.bytesOf e = B) (he : Opn P e d Q) :
    Opn P t (Kd.slice e d) (fun xs => xs.length ≤ maxLen ∧ xs.length * B ≤ 140737488351232 ∧ ∀ x, x ∈ xs → Q x) := by
  intro H enc W fuel cs x h hn
  rcases open_slice ht h with ⟨rfl, _⟩ | ⟨a, len, cap, m, n, D, Pl, rfl, _, hl, hm, hmm, rfl, hx⟩
  · exact ⟨[], ⟨none, 0, rfl, Nat.le_refl _, rfl, by simp, fun hp => absurd hp (by simp)⟩, by simp, by simp, fun x hx => by cases hx⟩
  · simp only [if_true] at hmm
    subst hmm
    have key : ∀ i, i < len → ∃ y : α, (∃ c, c.length = d.sz ∧ d.K W y c ∧ ∀ j u, c[j]? = some u → W.cell? (a.add (i * d.sz + j)) = some u) ∧ Q y := by
      intro i hi
      obtain ⟨cs', h1, h2⟩ := hx i (by omega)
      obtain ⟨y, hy, hq⟩ := he enc W n cs' _ h2 (fun k hk => hn k (by
        simp only [DataW.weights, ht]
        refine List.mem_cons_of_mem _ (List.mem_append_left _ ?_)
        exact mem_weightsAll P e _ (D i) (List.mem_map.2 ⟨i, List.mem_range.2 hi, rfl⟩) k hk))
      obtain ⟨h3, h4⟩ := cells_get h1
      rw [hc] at h3
      refine ⟨y, ⟨cs', h3, hy, fun j u hu => ?_⟩, hq⟩
      have h5 := h4 j u hu
      rw [Go.Deep.add_add, hc] at h5
      exact h5
    have hlist : ∀ k, k ≤ len → ∃ xs : List α, xs.length = k ∧ ∀ i y, xs[i]? = some y → (∃ c, c.length = d.sz ∧ d.K W y c ∧ ∀ j u, c[j]? = some u → W.cell? (a.add (i * d.sz + j)) = some u) ∧ Q y := by
      intro k
      induction k with
      | zero => exact fun _ => ⟨[], rfl, fun i y hy => by simp at hy⟩
      | succ k ih =>
        intro hk
        obtain ⟨xs, h1, h2⟩ := ih (by omega)
        obtain ⟨y, hy⟩ := key k (by omega)
        refine ⟨xs ++ [y], by simp [h1], fun i z hz => ?_⟩
        rcases Nat.lt_or_ge i xs.length with hlt | hge
        · rw [List.getElem?_append_left hlt] at hz
          exact h2 i z hz
        · have hi : i = xs.length := by
            have := (List.getElem?_eq_some_iff.1 hz).1
            simp at this
            omega
          subst hi
          have : y = z := by simpa using hz
          subst this
          rw [h1]
          exact hy
    obtain ⟨xs, h1, h2⟩ := hlist len (Nat.le_refl _)
    have hml : len ≤ maxLen := Nat.le_trans hl hm
    refine ⟨xs, ⟨some a, m, by rw [h1], by omega, h1 ▸ rfl, by rw [h1]; exact hml, fun _ => ⟨a, rfl, fun j p hj => (h2 j p hj).1⟩⟩, by rw [h1]; exact hml, ?_, fun x hx => ?_⟩
    · have hw := hn _ (by simp only [DataW.weights, ht]; exact List.mem_cons_self ..)
      rw [hB] at hw
      simp only [List.length_map, List.length_range] at hw
      exact Nat.le_trans (Nat.mul_le_mul_right _ (by omega)) hw
    · obtain ⟨i, hi, rfl⟩ := List.getElem_of_mem hx
      exact (h2 i _ (List.getElem?_eq_getElem hi)).2
/-- Fields one behind the other, from 'off' on, to the end of a struct of 'tot' cells. -/
def OpnF (P : Program) (off tot : Nat) (fs : List Field) {α : Type} (d : Kd α) (Q : α → Prop) : Prop :=
  ∀ {H : Type} (enc : TypeId × Value → H) (W : World) (n : Nat) (cs : List Value) (xs : List (DataW H × List MemPlace)), xs.length = fs.length → cs.length = tot →
    (∀ (i : Nat) (f : Field), fs[i]? = some f → DataW.trod enc P W 0 (fun _ => true) true n f.type ((cs.drop f.offset).take (P.cellsOf f.type)) = xs[i]?) →
    (∀ m, m ∈ DataW.weightsEach P (fs.map (·.type)) (xs.map (·.1)) → m ≤ 140737488351232) → ∃ a : α, d.K W a (cs.drop off) ∧ Q a
theorem opnF_last {P : Program} {off tot : Nat} {f : Field} {α : Type} {d : Kd α} {Q : α → Prop} (h : Opn P f.type d Q) (ho : f.offset = off) (hc : P.cellsOf f.type + off = tot) : OpnF P off tot [f] d Q := by
  intro H enc W n cs xs hl hlen hx hn
  match xs, hl with
  | [x], _ =>
    have h0 := hx 0 f rfl
    rw [ho, List.take_of_length_le (by rw [List.length_drop]; omega)] at h0
    exact h enc W n _ x h0 (fun m hm => hn m (by
      simp only [List.map_cons, List.map_nil, DataW.weightsEach]
      exact List.mem_append_left _ hm))
theorem opnF_cons {P : Program} {off off' tot : Nat} {f : Field} {fs : List Field} {α β : Type} {d : Kd α} {d' : Kd β} {Q : α → Prop} {Q' : β → Prop} (h : Opn P f.type d Q) (ho : f.offset = off) (hc : off + P.cellsOf f.type = off') (hr : OpnF P off' tot fs d' Q') :
    OpnF P off tot (f :: fs) (Kd.pair d d') (fun x => Q x.1 ∧ Q' x.2) := by
  intro H enc W n cs xs hl hlen hx hn
  match xs, hl with
  | x :: xs, hl =>
    have h0 := hx 0 f rfl
    rw [ho] at h0
    obtain ⟨a, ha, hqa⟩ := h enc W n _ x h0 (fun m hm => hn m (by
      simp only [List.map_cons, DataW.weightsEach]
      exact List.mem_append_left _ hm))
    obtain ⟨b, hb, hqb⟩ := hr enc W n cs xs (by simpa using hl) hlen (fun i g hg => by simpa using hx (i + 1) g (by simpa using hg)) (fun m hm => hn m (by
      simp only [List.map_cons, DataW.weightsEach]
      exact List.mem_append_right _ hm))
    refine ⟨(a, b), ⟨_, _, ?_, ha, hb⟩, hqa, hqb⟩
    rw [← hc, ← List.drop_drop, List.take_append_drop]
theorem opn_struct {P : Program} {t : TypeId} {fs : Array Field} {fl : List Field} {tot : Nat} {α β : Type} {d : Kd α} {Q : α → Prop} (f : β → α) (g : α → β) (hfg : ∀ x, f (g x) = x) (ht : P.underlying t = some (.struct fs)) (hfl : fs.toList = fl) (htot : P.cellsOf t = tot) (h : OpnF P 0 tot fl d Q) :
    Opn P t (Kd.iso d f) (fun x => Q (f x)) := by
  intro H enc W fuel cs x hx hn
  obtain ⟨xs, n, _, rfl, hl, hlen, hf⟩ := DataW.trod_struct ht hx
  subst hfl
  obtain ⟨a, ha, hq⟩ := h enc W n cs xs (by simpa using hlen) (by rw [hl, htot]) (fun i g hg => hf i g (by simpa using hg)) (fun m hm => hn m (by simpa only [DataW.weights, ht] using hm))
  exact ⟨g a, by show d.K W (f (g a)) cs; rw [hfg]; simpa using ha, by show Q (f (g a)); rw [hfg]; exact hq⟩
/-- A struct that is an argument: its value, its fields. -/
theorem at_struct {P : Program} {t : TypeId} {fs : Array Field} {α : Type} {d : Kd α} {Q : α → Prop} (h : Opn P t d Q) (hs : P.underlying t = some (.struct fs)) {r : Reach} {b0 : Nat} {H : Type} {enc : TypeId × Value → H} {W : World} {v : Value} {dd : DataW H} {p : List MemPlace}
    (hv : Value.okWide P W r b0 t v) (ht : DataW.Trod enc P W 0 (fun _ => true) true t v dd p) (hn : ∀ n, n ∈ DataW.weights P t dd → n ≤ 140737488351232) : ∃ (a : α) (l : List Value), v = .agg l.toArray ∧ d.K W a l ∧ Q a := by
  obtain ⟨cs, rfl, _⟩ := okWide_struct hs hv
  obtain ⟨fuel, hf⟩ := ht
  obtain ⟨a, ha, hq⟩ := h enc W fuel _ _ hf hn
  exact ⟨a, cs.toList, by rw [Array.toArray_toList], ha, hq⟩
/-- A number, a bool, a string that is an argument: its value. -/
theorem weights_of {H : Type} {P : Program} {ts : List TypeId} {ds : List (DataW H)} {j : Nat} {t : TypeId} {d : DataW H} (hsz : (DataW.weightsEach P ts ds).all (· ≤ reachBytes) = true) (ht : ts[j]? = some t) (hd : ds[j]? = some d) : ∀ n, n ∈ DataW.weights P t d → n ≤ 140737488351232 := by
  intro n hn
  have hm : n ∈ DataW.weightsEach P ts ds := by
    clear hsz
    induction j generalizing ts ds with
    | zero =>
      match ts, ds, ht, hd with
      | t' :: ts, d' :: ds, ht, hd =>
        simp at ht hd
        subst ht hd
        simp only [DataW.weightsEach]
        exact List.mem_append_left _ hn
    | succ j ih =>
      match ts, ds, ht, hd with
      | t' :: ts, d' :: ds, ht, hd =>
        simp only [DataW.weightsEach]
        exact List.mem_append_right _ (ih (by simpa using ht) (by simpa using hd))
  have := List.all_eq_true.1 hsz n hm
  exact of_decide_eq_true this
end Go.Proofs.Ytfjhlcbpogihmaa.Opn
namespace Go.Proofs.Ytfjhlcbpogihmaa.Pr
open Go.RowKit Go.Proofs.Ytfjhlcbpogihmaa.Opn Go.Proofs.YtfjhlcbpogihmaaW.PrintWords Go.Proofs.YtfjhlcbpogihmaaW.PrintLast Go.Proofs.YtfjhlcbpogihmaaW.PrintMore
set_option maxRecDepth 100000
def q75 (x : S75) : Prop := ((Lit.int .u64 x.f0).wf = true) ∧ (x.f1.size ≤ 140737488351232)
theorem o75 : Opn Try.prog 75 k75 q75 := opn_struct (fun x : S75 => (x.f0, x.f1)) (fun y => (⟨y.1, y.2⟩ : S75)) (fun _ => rfl) Try.underlying75 rfl (tot := 2) (by kernel_rfl) (opnF_cons (opn_int Try.underlying25) rfl (off' := 1) (by kernel_rfl) (opnF_last (opn_string Try.underlying9) rfl (by kernel_rfl)))
def q57 (x : S57) : Prop := ((Lit.int .i64 x.f0).wf = true) ∧ ((Lit.int .u64 x.f1).wf = true) ∧ ((Lit.int .u64 x.f2).wf = true) ∧ ((Lit.int .u64 x.f3).wf = true) ∧ ((Lit.int .u64 x.f4).wf = true) ∧ ((Lit.int .u64 x.f5).wf = true) ∧ ((Lit.int .u64 x.f6).wf = true) ∧ (True) ∧ (x.f8.length ≤ maxLen ∧ x.f8.length * 24 ≤ 140737488351232 ∧ ∀ y, y ∈ x.f8 → q75 y) ∧ (x.f9.size ≤ 140737488351232)
theorem o57 : Opn Try.prog 57 k57 q57 := opn_struct (fun x : S57 => (x.f0, x.f1, x.f2, x.f3, x.f4, x.f5, x.f6, x.f7, x.f8, x.f9)) (fun y => (⟨y.1, y.2.1, y.2.2.1, y.2.2.2.1, y.2.2.2.2.1, y.2.2.2.2.2.1, y.2.2.2.2.2.2.1, y.2.2.2.2.2.2.2.1, y.2.2.2.2.2.2.2.2.1, y.2.2.2.2.2.2.2.2.2⟩ : S57)) (fun _ => rfl) Try.underlying57 rfl (tot := 10) (by kernel_rfl) (opnF_cons (opn_int Try.underlying3) rfl (off' := 1) (by kernel_rfl) (opnF_cons (opn_int Try.underlying25) rfl (off' := 2) (by kernel_rfl) (opnF_cons (opn_int Try.underlying25) rfl (off' := 3) (by kernel_rfl) (opnF_cons (opn_int Try.underlying25) rfl (off' := 4) (by kernel_rfl) (opnF_cons (opn_int Try.underlying25) rfl (off' := 5) (by kernel_rfl) (opnF_cons (opn_int Try.underlying25) rfl (off' := 6) (by kernel_rfl) (opnF_cons (opn_int Try.underlying25) rfl (off' := 7) (by kernel_rfl) (opnF_cons (opn_bool Try.underlying4) rfl (off' := 8) (by kernel_rfl) (opnF_cons (opn_slice Try.underlying26 (by kernel_rfl) (B := 24) (by kernel_rfl) o75) rfl (off' := 9) (by kernel_rfl) (opnF_last (opn_string Try.underlying9) rfl (by kernel_rfl)))))))))))
end Go.Proofs.Ytfjhlcbpogihmaa.Pr
namespace Go.Proofs.Ytfjhlcbpogihmaa.Pr
open Go.RowKit Go.Proofs.YtfjhlcbpogihmaaW.PrintWords Go.Proofs.YtfjhlcbpogihmaaW.PrintLast Go.Proofs.YtfjhlcbpogihmaaW.PrintMore
theorem inU64_wf {a : Int} (h : (Lit.int .u64 a).wf = true) : inU64 a := by
  simp [Lit.wf, IntKind.min, IntKind.max, IntKind.signed, IntKind.bits] at h
  unfold inU64
  omega
theorem u8_join64 {x t : Int} (h0 : 0 ≤ x) (h1 : x < 64) (ht : t = 0 ∨ t = 64 ∨ t = 128 ∨ t = 192) : Go.bits .or .u8 x t = x + t := by
  obtain ⟨n, rfl⟩ := Int.eq_ofNat_of_zero_le h0
  have hn : n < 64 := by omega
  rcases ht with rfl | rfl | rfl | rfl
  · exact (by decide +kernel : ∀ n : Fin 64, Go.bits .or .u8 (n.val : Int) 0 = (n.val : Int) + 0) ⟨n, hn⟩
  · exact (by decide +kernel : ∀ n : Fin 64, Go.bits .or .u8 (n.val : Int) 64 = (n.val : Int) + 64) ⟨n, hn⟩
  · exact (by decide +kernel : ∀ n : Fin 64, Go.bits .or .u8 (n.val : Int) 128 = (n.val : Int) + 128) ⟨n, hn⟩
  · exact (by decide +kernel : ∀ n : Fin 64, Go.bits .or .u8 (n.val : Int) 192 = (n.val : Int) + 192) ⟨n, hn⟩
theorem num1_eq {v : Int} (h0 : 0 ≤ v) (h1 : v < 64) : num1 v = [v] := by
  unfold num1
  rw [u8_join64 h0 h1 (by omega), Int.add_zero]
theorem num2_eq {v : Int} (h0 : 64 ≤ v) (h1 : v < 16384) : num2 v = [v / 256 + 64, v % 256] := by
  unfold num2
  rw [u8_join64 (by omega) (by omega) (by omega)]
theorem num4_eq {v : Int} (h0 : 16384 ≤ v) (h1 : v < 1073741824) : num4 v = [v / 16777216 + 128, v / 65536 % 256, v / 256 % 256, v % 256] := by
  unfold num4
  rw [u8_join64 (by omega) (by omega) (by omega)]
theorem num8_eq {v : Int} (h0 : 1073741824 ≤ v) (h1 : v < 4611686018427387904) : num8 v = [v / 72057594037927936 + 192, v / 281474976710656 % 256, v / 1099511627776 % 256, v / 4294967296 % 256, v / 16777216 % 256, v / 65536 % 256, v / 256 % 256, v % 256] := by
  unfold num8
  rw [u8_join64 (by omega) (by omega) (by omega)]
theorem numL_length {v : Int} : ((numL v).length : Int) = sizeI v := by
  unfold numL sizeI
  split
  · rfl
  · split
    · rfl
    · split
      · rfl
      · split <;> rfl
theorem size_num (v : Int) : ((strOfNums (numL v)).size : Int) = sizeI v := by rw [strOfNums_size]; exact numL_length
theorem num_f {v : Int} (h : inU64 v) : pack_Num.f v = some (strOfNums (numL v), numE v) := by unfold pack_Num.f; rw [if_pos h]
theorem size_f {v : Int} (h : inU64 v) : pack_Size.f v = some (sizeI v) := by unfold pack_Size.f; rw [if_pos h]
theorem sizeI_cases (v : Int) : (v < 64 ∧ sizeI v = 1) ∨ (64 ≤ v ∧ v < 16384 ∧ sizeI v = 2) ∨ (16384 ≤ v ∧ v < 1073741824 ∧ sizeI v = 4) ∨ (1073741824 ≤ v ∧ v < 4611686018427387904 ∧ sizeI v = 8) ∨ (4611686018427387904 ≤ v ∧ sizeI v = 0) := by
  unfold sizeI
  split
  · omega
  · split
    · omega
    · split
      · omega
      · split <;> omega
theorem ba_assoc (a b c : ByteArray) : a ++ b ++ c = a ++ (b ++ c) := by
  apply ByteArray.ext
  simp only [ByteArray.data_append, Array.append_assoc]
theorem ba_nil (a : ByteArray) : a ++ (⟨#[]⟩ : ByteArray) = a := by
  apply ByteArray.ext
  simp [ByteArray.data_append]
theorem nil_ba (a : ByteArray) : (⟨#[]⟩ : ByteArray) ++ a = a := by
  apply ByteArray.ext
  simp [ByteArray.data_append]
end Go.Proofs.Ytfjhlcbpogihmaa.Pr
namespace Go.Proofs.Ytfjhlcbpogihmaa.Pr
open Go.RowKit Go.Proofs.YtfjhlcbpogihmaaW.PrintWords Go.Proofs.YtfjhlcbpogihmaaW.PrintLast Go.Proofs.YtfjhlcbpogihmaaW.PrintMore
attribute [local go_sem] max2_int max_four
set_option linter.unusedVariables false
set_option linter.unusedSimpArgs false
/-! ### ferruleref01_Size: function 87 -/
def ferruleref01_Size.f (a0 : Int) : Option (Int) := if a0 < 64 then (some 1) else (if a0 < 16384 then (some 2) else (if a0 < 1073741824 then (some 4) else (if a0 < 4611686018427387904 then (some 8) else (some 0))))
end Go.Proofs.Ytfjhlcbpogihmaa.Pr
namespace Go.Proofs.Ytfjhlcbpogihmaa.Pr
open Go.RowKit Go.Proofs.YtfjhlcbpogihmaaW.PrintWords Go.Proofs.YtfjhlcbpogihmaaW.PrintLast Go.Proofs.YtfjhlcbpogihmaaW.PrintMore
attribute [local go_sem] max2_int max_four
set_option linter.unusedVariables false
set_option linter.unusedSimpArgs false
/-! ### ferruleref01_TakeNum: function 75 -/
mutual
def ferruleref01_TakeNum.l0 : Nat → ByteArray → Int → Int → Option (Int × ByteArray × Int)
  | 0, _, _, _ => none
  | k + 1, x0, x5, x6 => if 0 < (x0.size : Int) then (if x6 < ((Int.tdiv (bt x0 0) 64) % 256) then (ferruleref01_TakeNum.l0 k x0 (wrap64 (x5 * 2)) ((x6 + 1) % 256)) else (if (x0.size : Int) < x5 then (some (0, (⟨#[]⟩ : ByteArray), 2)) else (ferruleref01_TakeNum.l1 k x0 x5 (IntKind.u64.wrap (Int.tmod (bt x0 0) 64)) 1))) else (none)
def ferruleref01_TakeNum.l1 : Nat → ByteArray → Int → Int → Int → Option (Int × ByteArray × Int)
  | 0, _, _, _, _ => none
  | k + 1, x0, x5, x7, x8 => if x8 < x5 then (if 0 ≤ x8 then (if x8 < (x0.size : Int) then (ferruleref01_TakeNum.l1 k x0 x5 (IntKind.u64.wrap ((IntKind.u64.wrap (x7 * 256)) + (IntKind.u64.wrap (bt x0 x8)))) (wrap64 (x8 + 1))) else (none)) else (none)) else ((ferruleref01_Size.f x7).bind fun t486 => (if t486 = x5 then (if 0 ≤ x5 then (if x5 ≤ (x0.size : Int) then (some (x7, x0.extract (x5 : Int).toNat x0.size, 0)) else (none)) else (none)) else (some (0, (⟨#[]⟩ : ByteArray), 3))))
end
def ferruleref01_TakeNum.f (k : Nat) (a0 : ByteArray) : Option (Int × ByteArray × Int) := if (a0.size : Int) = 0 then (some (0, (⟨#[]⟩ : ByteArray), 2)) else (ferruleref01_TakeNum.l0 k a0 1 0)
end Go.Proofs.Ytfjhlcbpogihmaa.Pr
namespace Go.Proofs.Ytfjhlcbpogihmaa.Pr
open Go.RowKit Go.Proofs.YtfjhlcbpogihmaaW.PrintWords Go.Proofs.YtfjhlcbpogihmaaW.PrintLast Go.Proofs.YtfjhlcbpogihmaaW.PrintMore
theorem wrap_in {x : Int} (h0 : 0 ≤ x) (h1 : x < 18446744073709551616) : IntKind.u64.wrap x = x := by
  rw [IntKind.wrap_u64]
  omega
theorem wrap64_in {x : Int} (h0 : 0 ≤ x) (h1 : x < 100) : wrap64 x = x := by
  simp [wrap64]
  omega
theorem or_step {x b : Int} (hb0 : 0 ≤ b) (hb1 : b ≤ 255) : Go.bits .or .u64 (IntKind.u64.wrap (x * 256)) (IntKind.u64.wrap b) = IntKind.u64.wrap (IntKind.u64.wrap (x * 256) + IntKind.u64.wrap b) := by
  rw [IntKind.wrap_u64 (x * 256), wrap_in hb0 (by omega), wrap_in (by omega) (by omega)]
  exact bits_join .u64 64 (by decide) (fun n h0 h1 => wrap_in h0 (by omega)) 8 _ _ (by omega) (by omega) (by omega) hb0 (by omega) (by omega)
theorem or_val {x b : Int} (hx0 : 0 ≤ x) (hx : x < 72057594037927936) (hb0 : 0 ≤ b) (hb1 : b ≤ 255) : Go.bits .or .u64 (IntKind.u64.wrap (x * 256)) (IntKind.u64.wrap b) = x * 256 + b := by
  rw [or_step hb0 hb1, wrap_in (x := x * 256) (by omega) (by omega), wrap_in hb0 (by omega), wrap_in (by omega) (by omega)]
theorem toList_nil {a : ByteArray} : a.toList = [] ↔ (a.size : Int) = 0 := by
  rw [ByteArray.toList_eq]
  have := data_length a
  rw [← List.length_eq_zero_iff]
  omega
theorem and63 (s : ByteArray) : IntKind.u64.wrap (Go.bits .and .u8 (bt s 0) 63) = bt s 0 % 64 := by
  obtain ⟨h0, h1⟩ := bt_range s 0
  generalize bt s 0 = b at *
  obtain ⟨n, rfl⟩ := Int.eq_ofNat_of_zero_le h0
  have hn : n < 256 := by omega
  exact (by decide +kernel : ∀ n : Fin 256, IntKind.u64.wrap (Go.bits .and .u8 (n.val : Int) 63) = (n.val : Int) % 64) ⟨n, hn⟩
theorem bt_nums (L : List Int) (a : ByteArray) (j : Nat) (h : j < L.length) (hb : 0 ≤ L[j] ∧ L[j] ≤ 255) : bt (strOfNums L ++ a) (j : Int) = L[j] := by
  have hj : ((j : Int)).toNat = j := by omega
  have hlt : j < (strOfNums L ++ a).size := by rw [ByteArray.size_append, strOfNums_size]; omega
  unfold bt
  simp only [hj, dif_pos hlt]
  have hl : j < (strOfNums L).size := by rw [strOfNums_size]; exact h
  rw [ByteArray.getElem_append_left hl]
  show (((strOfNums L).data[j]'hl).toNat : Int) = L[j]
  simp only [strOfNums, List.getElem_toArray, List.getElem_map, UInt8.toNat_ofNat']
  omega
theorem take_step (k : Nat) (s : ByteArray) (n x i b y : Int) (hi : i < n) (h0 : 0 ≤ i) (hs : i < s.size) (hb : bt s i = b) (hb0 : 0 ≤ b ∧ b ≤ 255) (hx0 : 0 ≤ x) (hx : x < 72057594037927936) (hy : x * 256 + b = y) (hi8 : i < 8) : pack_TakeNum.l0 (k + 1) s n x i = pack_TakeNum.l0 k s n y (i + 1) := by
  rw [pack_TakeNum.l0, if_pos hi, if_pos h0, if_pos hs, hb, or_val hx0 hx hb0.1 hb0.2, hy, wrap64_in (by omega) (by omega)]
theorem back1 {v : Int} (a : ByteArray) (k : Nat) (h0 : 0 ≤ v) (h1 : v < 64) : pack_TakeNum.f (k + 2) (strOfNums (numL v) ++ a) = some (v, a, 0) := by
  have hL : numL v = [v] := by
    unfold numL; rw [if_pos h1, num1_eq h0 h1]
  have hz : sizeI v = 1 := by have := sizeI_cases v; omega
  rw [hL]
  have hb := bt_nums [v] a
  have b0 : bt (strOfNums [v] ++ a) 0 = v := hb 0 (by show 0 < (_ : Nat); simp only [List.length_cons, List.length_nil]; omega) (by show 0 ≤ v ∧ v ≤ 255; omega)
  have hs : ((strOfNums [v] ++ a).size : Int) = 1 + a.size := by rw [ByteArray.size_append, strOfNums_size]; show ((1 + a.size : Nat) : Int) = _; omega
  have he : (strOfNums [v] ++ a).extract 1 (strOfNums [v] ++ a).size = a := ByteArray.extract_append_eq_right (by rw [strOfNums_size]; rfl) (by rw [ByteArray.size_append])
  generalize strOfNums [v] ++ a = s at *
  have hq : bt s 0 / 64 = 0 := by rw [b0]; omega
  have hm : bt s 0 % 64 = v := by rw [b0]; omega
  unfold pack_TakeNum.f
  rw [if_neg (by rw [toList_nil]; omega), if_pos (by omega), if_pos (by omega), hq, (by decide +kernel : shl .i64 1 0 = 1), if_neg (by omega), and63, hm]
  rw [pack_TakeNum.l0, if_neg (by omega), size_f (by unfold inU64; omega), Option.bind_some, if_pos hz, if_pos (by omega), if_pos (by omega)]
  rw [(by rfl : ((1 : Int)).toNat = 1), he]
theorem back2 {v : Int} (a : ByteArray) (k : Nat) (h0 : 64 ≤ v) (h1 : v < 16384) : pack_TakeNum.f (k + 3) (strOfNums (numL v) ++ a) = some (v, a, 0) := by
  have hL : numL v = [v / 256 + 64, v % 256] := by
    unfold numL; rw [if_neg (by omega), if_pos h1, num2_eq h0 h1]
  have hz : sizeI v = 2 := by have := sizeI_cases v; omega
  rw [hL]
  have hb := bt_nums [v / 256 + 64, v % 256] a
  have b0 : bt (strOfNums [v / 256 + 64, v % 256] ++ a) 0 = v / 256 + 64 := hb 0 (by show 0 < (_ : Nat); simp only [List.length_cons, List.length_nil]; omega) (by show 0 ≤ v / 256 + 64 ∧ v / 256 + 64 ≤ 255; omega)
  have b1 : bt (strOfNums [v / 256 + 64, v % 256] ++ a) 1 = v % 256 := hb 1 (by show 1 < (_ : Nat); simp only [List.length_cons, List.length_nil]; omega) (by show 0 ≤ v % 256 ∧ v % 256 ≤ 255; omega)
  have hs : ((strOfNums [v / 256 + 64, v % 256] ++ a).size : Int) = 2 + a.size := by rw [ByteArray.size_append, strOfNums_size]; show ((2 + a.size : Nat) : Int) = _; omega
  have he : (strOfNums [v / 256 + 64, v % 256] ++ a).extract 2 (strOfNums [v / 256 + 64, v % 256] ++ a).size = a := ByteArray.extract_append_eq_right (by rw [strOfNums_size]; rfl) (by rw [ByteArray.size_append])
  generalize strOfNums [v / 256 + 64, v % 256] ++ a = s at *
  have hq : bt s 0 / 64 = 1 := by rw [b0]; omega
  have hm : bt s 0 % 64 = v / 256 := by rw [b0]; omega
  unfold pack_TakeNum.f
  rw [if_neg (by rw [toList_nil]; omega), if_pos (by omega), if_pos (by omega), hq, (by decide +kernel : shl .i64 1 1 = 2), if_neg (by omega), and63, hm]
  rw [take_step (k + 2) s 2 (v / 256) 1 (v % 256) (v) (by omega) (by omega) (by omega) b1 (by omega) (by omega) (by omega) (by omega) (by omega)]
  rw [(by omega : (1 : Int) + 1 = 2)]
  rw [pack_TakeNum.l0, if_neg (by omega), size_f (by unfold inU64; omega), Option.bind_some, if_pos hz, if_pos (by omega), if_pos (by omega)]
  rw [(by rfl : ((2 : Int)).toNat = 2), he]
theorem back4 {v : Int} (a : ByteArray) (k : Nat) (h0 : 16384 ≤ v) (h1 : v < 1073741824) : pack_TakeNum.f (k + 5) (strOfNums (numL v) ++ a) = some (v, a, 0) := by
  have hL : numL v = [v / 16777216 + 128, v / 65536 % 256, v / 256 % 256, v % 256] := by
    unfold numL; rw [if_neg (by omega), if_neg (by omega), if_pos h1, num4_eq h0 h1]
  have hz : sizeI v = 4 := by have := sizeI_cases v; omega
  rw [hL]
  have hb := bt_nums [v / 16777216 + 128, v / 65536 % 256, v / 256 % 256, v % 256] a
  have b0 : bt (strOfNums [v / 16777216 + 128, v / 65536 % 256, v / 256 % 256, v % 256] ++ a) 0 = v / 16777216 + 128 := hb 0 (by show 0 < (_ : Nat); simp only [List.length_cons, List.length_nil]; omega) (by show 0 ≤ v / 16777216 + 128 ∧ v / 16777216 + 128 ≤ 255; omega)
  have b1 : bt (strOfNums [v / 16777216 + 128, v / 65536 % 256, v / 256 % 256, v % 256] ++ a) 1 = v / 65536 % 256 := hb 1 (by show 1 < (_ : Nat); simp only [List.length_cons, List.length_nil]; omega) (by show 0 ≤ v / 65536 % 256 ∧ v / 65536 % 256 ≤ 255; omega)
  have b2 : bt (strOfNums [v / 16777216 + 128, v / 65536 % 256, v / 256 % 256, v % 256] ++ a) 2 = v / 256 % 256 := hb 2 (by show 2 < (_ : Nat); simp only [List.length_cons, List.length_nil]; omega) (by show 0 ≤ v / 256 % 256 ∧ v / 256 % 256 ≤ 255; omega)
  have b3 : bt (strOfNums [v / 16777216 + 128, v / 65536 % 256, v / 256 % 256, v % 256] ++ a) 3 = v % 256 := hb 3 (by show 3 < (_ : Nat); simp only [List.length_cons, List.length_nil]; omega) (by show 0 ≤ v % 256 ∧ v % 256 ≤ 255; omega)
  have hs : ((strOfNums [v / 16777216 + 128, v / 65536 % 256, v / 256 % 256, v % 256] ++ a).size : Int) = 4 + a.size := by rw [ByteArray.size_append, strOfNums_size]; show ((4 + a.size : Nat) : Int) = _; omega
  have he : (strOfNums [v / 16777216 + 128, v / 65536 % 256, v / 256 % 256, v % 256] ++ a).extract 4 (strOfNums [v / 16777216 + 128, v / 65536 % 256, v / 256 % 256, v % 256] ++ a).size = a := ByteArray.extract_append_eq_right (by rw [strOfNums_size]; rfl) (by rw [ByteArray.size_append])
  generalize strOfNums [v / 16777216 + 128, v / 65536 % 256, v / 256 % 256, v % 256] ++ a = s at *
  have hq : bt s 0 / 64 = 2 := by rw [b0]; omega
  have hm : bt s 0 % 64 = v / 16777216 := by rw [b0]; omega
  unfold pack_TakeNum.f
  rw [if_neg (by rw [toList_nil]; omega), if_pos (by omega), if_pos (by omega), hq, (by decide +kernel : shl .i64 1 2 = 4), if_neg (by omega), and63, hm]
  rw [take_step (k + 4) s 4 (v / 16777216) 1 (v / 65536 % 256) (v / 65536) (by omega) (by omega) (by omega) b1 (by omega) (by omega) (by omega) (by omega) (by omega)]
  rw [(by omega : (1 : Int) + 1 = 2)]
  rw [take_step (k + 3) s 4 (v / 65536) 2 (v / 256 % 256) (v / 256) (by omega) (by omega) (by omega) b2 (by omega) (by omega) (by omega) (by omega) (by omega)]
  rw [(by omega : (2 : Int) + 1 = 3)]
  rw [take_step (k + 2) s 4 (v / 256) 3 (v % 256) (v) (by omega) (by omega) (by omega) b3 (by omega) (by omega) (by omega) (by omega) (by omega)]
  rw [(by omega : (3 : Int) + 1 = 4)]
  rw [pack_TakeNum.l0, if_neg (by omega), size_f (by unfold inU64; omega), Option.bind_some, if_pos hz, if_pos (by omega), if_pos (by omega)]
  rw [(by rfl : ((4 : Int)).toNat = 4), he]
theorem back8 {v : Int} (a : ByteArray) (k : Nat) (h0 : 1073741824 ≤ v) (h1 : v < 4611686018427387904) : pack_TakeNum.f (k + 9) (strOfNums (numL v) ++ a) = some (v, a, 0) := by
  have hL : numL v = [v / 72057594037927936 + 192, v / 281474976710656 % 256, v / 1099511627776 % 256, v / 4294967296 % 256, v / 16777216 % 256, v / 65536 % 256, v / 256 % 256, v % 256] := by
    unfold numL; rw [if_neg (by omega), if_neg (by omega), if_neg (by omega), if_pos h1, num8_eq h0 h1]
  have hz : sizeI v = 8 := by have := sizeI_cases v; omega
  rw [hL]
  have hb := bt_nums [v / 72057594037927936 + 192, v / 281474976710656 % 256, v / 1099511627776 % 256, v / 4294967296 % 256, v / 16777216 % 256, v / 65536 % 256, v / 256 % 256, v % 256] a
  have b0 : bt (strOfNums [v / 72057594037927936 + 192, v / 281474976710656 % 256, v / 1099511627776 % 256, v / 4294967296 % 256, v / 16777216 % 256, v / 65536 % 256, v / 256 % 256, v % 256] ++ a) 0 = v / 72057594037927936 + 192 := hb 0 (by show 0 < (_ : Nat); simp only [List.length_cons, List.length_nil]; omega) (by show 0 ≤ v / 72057594037927936 + 192 ∧ v / 72057594037927936 + 192 ≤ 255; omega)
  have b1 : bt (strOfNums [v / 72057594037927936 + 192, v / 281474976710656 % 256, v / 1099511627776 % 256, v / 4294967296 % 256, v / 16777216 % 256, v / 65536 % 256, v / 256 % 256, v % 256] ++ a) 1 = v / 281474976710656 % 256 := hb 1 (by show 1 < (_ : Nat); simp only [List.length_cons, List.length_nil]; omega) (by show 0 ≤ v / 281474976710656 % 256 ∧ v / 281474976710656 % 256 ≤ 255; omega)
  have b2 : bt (strOfNums [v / 72057594037927936 + 192, v / 281474976710656 % 256, v / 1099511627776 % 256, v / 4294967296 % 256, v / 16777216 % 256, v / 65536 % 256, v / 256 % 256, v % 256] ++ a) 2 = v / 1099511627776 % 256 := hb 2 (by show 2 < (_ : Nat); simp only [List.length_cons, List.length_nil]; omega) (by show 0 ≤ v / 1099511627776 % 256 ∧ v / 1099511627776 % 256 ≤ 255; omega)
  have b3 : bt (strOfNums [v / 72057594037927936 + 192, v / 281474976710656 % 256, v / 1099511627776 % 256, v / 4294967296 % 256, v / 16777216 % 256, v / 65536 % 256, v / 256 % 256, v % 256] ++ a) 3 = v / 4294967296 % 256 := hb 3 (by show 3 < (_ : Nat); simp only [List.length_cons, List.length_nil]; omega) (by show 0 ≤ v / 4294967296 % 256 ∧ v / 4294967296 % 256 ≤ 255; omega)
  have b4 : bt (strOfNums [v / 72057594037927936 + 192, v / 281474976710656 % 256, v / 1099511627776 % 256, v / 4294967296 % 256, v / 16777216 % 256, v / 65536 % 256, v / 256 % 256, v % 256] ++ a) 4 = v / 16777216 % 256 := hb 4 (by show 4 < (_ : Nat); simp only [List.length_cons, List.length_nil]; omega) (by show 0 ≤ v / 16777216 % 256 ∧ v / 16777216 % 256 ≤ 255; omega)
  have b5 : bt (strOfNums [v / 72057594037927936 + 192, v / 281474976710656 % 256, v / 1099511627776 % 256, v / 4294967296 % 256, v / 16777216 % 256, v / 65536 % 256, v / 256 % 256, v % 256] ++ a) 5 = v / 65536 % 256 := hb 5 (by show 5 < (_ : Nat); simp only [List.length_cons, List.length_nil]; omega) (by show 0 ≤ v / 65536 % 256 ∧ v / 65536 % 256 ≤ 255; omega)
  have b6 : bt (strOfNums [v / 72057594037927936 + 192, v / 281474976710656 % 256, v / 1099511627776 % 256, v / 4294967296 % 256, v / 16777216 % 256, v / 65536 % 256, v / 256 % 256, v % 256] ++ a) 6 = v / 256 % 256 := hb 6 (by show 6 < (_ : Nat); simp only [List.length_cons, List.length_nil]; omega) (by show 0 ≤ v / 256 % 256 ∧ v / 256 % 256 ≤ 255; omega)
  have b7 : bt (strOfNums [v / 72057594037927936 + 192, v / 281474976710656 % 256, v / 1099511627776 % 256, v / 4294967296 % 256, v / 16777216 % 256, v / 65536 % 256, v / 256 % 256, v % 256] ++ a) 7 = v % 256 := hb 7 (by show 7 < (_ : Nat); simp only [List.length_cons, List.length_nil]; omega) (by show 0 ≤ v % 256 ∧ v % 256 ≤ 255; omega)
  have hs : ((strOfNums [v / 72057594037927936 + 192, v / 281474976710656 % 256, v / 1099511627776 % 256, v / 4294967296 % 256, v / 16777216 % 256, v / 65536 % 256, v / 256 % 256, v % 256] ++ a).size : Int) = 8 + a.size := by rw [ByteArray.size_append, strOfNums_size]; show ((8 + a.size : Nat) : Int) = _; omega
  have he : (strOfNums [v / 72057594037927936 + 192, v / 281474976710656 % 256, v / 1099511627776 % 256, v / 4294967296 % 256, v / 16777216 % 256, v / 65536 % 256, v / 256 % 256, v % 256] ++ a).extract 8 (strOfNums [v / 72057594037927936 + 192, v / 281474976710656 % 256, v / 1099511627776 % 256, v / 4294967296 % 256, v / 16777216 % 256, v / 65536 % 256, v / 256 % 256, v % 256] ++ a).size = a := ByteArray.extract_append_eq_right (by rw [strOfNums_size]; rfl) (by rw [ByteArray.size_append])
  generalize strOfNums [v / 72057594037927936 + 192, v / 281474976710656 % 256, v / 1099511627776 % 256, v / 4294967296 % 256, v / 16777216 % 256, v / 65536 % 256, v / 256 % 256, v % 256] ++ a = s at *
  have hq : bt s 0 / 64 = 3 := by rw [b0]; omega
  have hm : bt s 0 % 64 = v / 72057594037927936 := by rw [b0]; omega
  unfold pack_TakeNum.f
  rw [if_neg (by rw [toList_nil]; omega), if_pos (by omega), if_pos (by omega), hq, (by decide +kernel : shl .i64 1 3 = 8), if_neg (by omega), and63, hm]
  rw [take_step (k + 8) s 8 (v / 72057594037927936) 1 (v / 281474976710656 % 256) (v / 281474976710656) (by omega) (by omega) (by omega) b1 (by omega) (by omega) (by omega) (by omega) (by omega)]
  rw [(by omega : (1 : Int) + 1 = 2)]
  rw [take_step (k + 7) s 8 (v / 281474976710656) 2 (v / 1099511627776 % 256) (v / 1099511627776) (by omega) (by omega) (by omega) b2 (by omega) (by omega) (by omega) (by omega) (by omega)]
  rw [(by omega : (2 : Int) + 1 = 3)]
  rw [take_step (k + 6) s 8 (v / 1099511627776) 3 (v / 4294967296 % 256) (v / 4294967296) (by omega) (by omega) (by omega) b3 (by omega) (by omega) (by omega) (by omega) (by omega)]
  rw [(by omega : (3 : Int) + 1 = 4)]
  rw [take_step (k + 5) s 8 (v / 4294967296) 4 (v / 16777216 % 256) (v / 16777216) (by omega) (by omega) (by omega) b4 (by omega) (by omega) (by omega) (by omega) (by omega)]
  rw [(by omega : (4 : Int) + 1 = 5)]
  rw [take_step (k + 4) s 8 (v / 16777216) 5 (v / 65536 % 256) (v / 65536) (by omega) (by omega) (by omega) b5 (by omega) (by omega) (by omega) (by omega) (by omega)]
  rw [(by omega : (5 : Int) + 1 = 6)]
  rw [take_step (k + 3) s 8 (v / 65536) 6 (v / 256 % 256) (v / 256) (by omega) (by omega) (by omega) b6 (by omega) (by omega) (by omega) (by omega) (by omega)]
  rw [(by omega : (6 : Int) + 1 = 7)]
  rw [take_step (k + 2) s 8 (v / 256) 7 (v % 256) (v) (by omega) (by omega) (by omega) b7 (by omega) (by omega) (by omega) (by omega) (by omega)]
  rw [(by omega : (7 : Int) + 1 = 8)]
  rw [pack_TakeNum.l0, if_neg (by omega), size_f (by unfold inU64; omega), Option.bind_some, if_pos hz, if_pos (by omega), if_pos (by omega)]
  rw [(by rfl : ((8 : Int)).toNat = 8), he]
theorem take_back {v : Int} (a : ByteArray) (hv : 0 ≤ v) (h1 : v < 4611686018427387904) : pack_TakeNum.f 20 (strOfNums (numL v) ++ a) = some (v, a, 0) := by
  by_cases c1 : v < 64
  · exact back1 a 18 hv c1
  · by_cases c2 : v < 16384
    · exact back2 a 17 (by omega) c2
    · by_cases c3 : v < 1073741824
      · exact back4 a 15 (by omega) c3
      · exact back8 a 11 (by omega) h1
end Go.Proofs.Ytfjhlcbpogihmaa.Pr
namespace Go.Proofs.Ytfjhlcbpogihmaa.Pr
open Go.RowKit Go.Proofs.YtfjhlcbpogihmaaW.PrintWords Go.Proofs.YtfjhlcbpogihmaaW.PrintLast Go.Proofs.YtfjhlcbpogihmaaW.PrintMore
attribute [local go_sem] max2_int max_four
set_option linter.unusedVariables false
set_option linter.unusedSimpArgs false
/-! ### ferruleref01_Num: function 61 -/
mutual
def ferruleref01_Num.j0 : Nat → Int → Int → Int → Option (ByteArray × Int)
  | 0, _, _, _ => none
  | k + 1, x0, x4, x5 => if x4 = 4 then (ferruleref01_Num.j1 k x0 x4 2147483648) else (ferruleref01_Num.j1 k x0 x4 x5)
def ferruleref01_Num.j1 : Nat → Int → Int → Int → Option (ByteArray × Int)
  | 0, _, _, _ => none
  | k + 1, x0, x4, x5 => if x4 = 8 then (ferruleref01_Num.j2 k x0 x4 13835058055282163712) else (ferruleref01_Num.j2 k x0 x4 x5)
def ferruleref01_Num.j2 : Nat → Int → Int → Int → Option (ByteArray × Int)
  | 0, _, _, _ => none
  | k + 1, x0, x4, x5 => ferruleref01_Num.l0 k (IntKind.u64.wrap (x0 + x5)) x4 (⟨#[]⟩ : ByteArray) 0
def ferruleref01_Num.l0 : Nat → Int → Int → ByteArray → Int → Option (ByteArray × Int)
  | 0, _, _, _, _ => none
  | k + 1, x0, x4, x6, x7 => if x7 < x4 then ((some (([(Int.tmod x0 256) % 256] : List Int) : List Int)).bind fun y402 => (if (strOfNums y402).size + x6.size ≤ 9223372036854775807 then (ferruleref01_Num.l0 k (IntKind.u64.wrap (Int.tdiv x0 256)) x4 ((strOfNums y402) ++ x6) (wrap64 (x7 + 1))) else (none))) else (some (x6, 0))
end
def ferruleref01_Num.f (k : Nat) (a0 : Int) : Option (ByteArray × Int) := (ferruleref01_Size.f a0).bind fun t401 => (if t401 = 0 then (some ((⟨#[]⟩ : ByteArray), 4)) else (if t401 = 2 then (ferruleref01_Num.j0 k a0 t401 16384) else (ferruleref01_Num.j0 k a0 t401 0)))
end Go.Proofs.Ytfjhlcbpogihmaa.Pr
namespace Go.Proofs.Ytfjhlcbpogihmaa.Pr
open Go.RowKit Go.Proofs.YtfjhlcbpogihmaaW.PrintWords Go.Proofs.YtfjhlcbpogihmaaW.PrintLast Go.Proofs.YtfjhlcbpogihmaaW.PrintMore
end Go.Proofs.Ytfjhlcbpogihmaa.Pr
namespace Go.Proofs.Ytfjhlcbpogihmaa.Pr
open Go.RowKit Go.Proofs.YtfjhlcbpogihmaaW.PrintWords Go.Proofs.YtfjhlcbpogihmaaW.PrintLast Go.Proofs.YtfjhlcbpogihmaaW.PrintMore
theorem extract_bytes (a : ByteArray) (n : Nat) (h : n ≤ a.size) : strOfNums ((List.range n).map fun i : Nat => bt a (i : Int)) = a.extract 0 n := by
  apply ByteArray.ext
  apply Array.ext
  · show (strOfNums _).size = (a.extract 0 n).size
    rw [strOfNums_size, ByteArray.size_extract]
    simp only [List.length_map, List.length_range]
    omega
  · intro i h1 h2
    have hi : i < n := by
      have : i < (strOfNums ((List.range n).map fun i : Nat => bt a (i : Int))).size := h1
      rw [strOfNums_size] at this
      simpa using this
    have hia : i < a.size := by omega
    have hl : (strOfNums ((List.range n).map fun i : Nat => bt a (i : Int))).data[i]'h1 = UInt8.ofNat (bt a (i : Int)).toNat := by
      simp [strOfNums]
    rw [hl]
    have hb : bt a (i : Int) = ((a[i]'hia).toNat : Int) := by
      have := bt_at a (i : Int) (by simpa using hia)
      rw [← this]
      simp
    rw [hb]
    have hr : (a.extract 0 n).data[i]'h2 = a[i]'hia := by
      simp only [ByteArray.data_extract, Array.getElem_extract, Nat.zero_add]
      rfl
    rw [hr]
    simp
theorem end_step (k : Nat) (a : ByteArray) (n x i : Int) (hx : inU64 x) (hn0 : 0 ≤ n) (hn : n ≤ a.size) (hi : ¬ i < n) : pack_TakeNum.l0 (k + 1) a n x i = if sizeI x = n then some (x, a.extract n.toNat a.size, 0) else some (0, (⟨#[]⟩ : ByteArray), 3) := by
  rw [pack_TakeNum.l0, if_neg hi, size_f hx, Option.bind_some, if_pos hn0, if_pos hn]
theorem run1 (a : ByteArray) (hs : (1 : Int) ≤ a.size) (hq : bt a 0 / 64 = 0) : ∃ v, pack_TakeNum.l0 20 a 1 (bt a 0 % 64) 1 = (if sizeI v = 1 then some (v, a.extract 1 a.size, 0) else some (0, (⟨#[]⟩ : ByteArray), 3)) ∧ inU64 v ∧ (sizeI v = 1 → numL v = [bt a 0]) := by
  have r0 := bt_range a 0
  obtain ⟨x1, e1⟩ : ∃ x, x = bt a 0 % 64 := ⟨_, rfl⟩
  refine ⟨x1, ?_, ?_, ?_⟩
  · rw [← e1]
    rw [end_step 19 a 1 x1 1 (by unfold inU64; omega) (by omega) hs (by omega)]
    rfl
  · unfold inU64; omega
  · intro hz
    have hv : 0 ≤ x1 ∧ x1 < 64 := by have := sizeI_cases x1; omega
    unfold numL
    rw [if_pos hv.2, num1_eq hv.1 hv.2]
    simp only [List.cons.injEq, and_true]
    omega
theorem run2 (a : ByteArray) (hs : (2 : Int) ≤ a.size) (hq : bt a 0 / 64 = 1) : ∃ v, pack_TakeNum.l0 20 a 2 (bt a 0 % 64) 1 = (if sizeI v = 2 then some (v, a.extract 2 a.size, 0) else some (0, (⟨#[]⟩ : ByteArray), 3)) ∧ inU64 v ∧ (sizeI v = 2 → numL v = [bt a 0, bt a 1]) := by
  have r0 := bt_range a 0
  have r1 := bt_range a 1
  obtain ⟨x1, e1⟩ : ∃ x, x = bt a 0 % 64 := ⟨_, rfl⟩
  obtain ⟨x2, e2⟩ : ∃ x, x = x1 * 256 + bt a 1 := ⟨_, rfl⟩
  refine ⟨x2, ?_, ?_, ?_⟩
  · rw [← e1]
    rw [take_step 19 a 2 x1 1 (bt a 1) x2 (by omega) (by omega) (by omega) rfl r1 (by omega) (by omega) e2.symm (by omega)]
    rw [(by omega : (1 : Int) + 1 = 2)]
    rw [end_step 18 a 2 x2 2 (by unfold inU64; omega) (by omega) hs (by omega)]
    rfl
  · unfold inU64; omega
  · intro hz
    have hv : 64 ≤ x2 ∧ x2 < 16384 := by have := sizeI_cases x2; omega
    unfold numL
    rw [if_neg (by omega), if_pos hv.2, num2_eq hv.1 hv.2]
    simp only [List.cons.injEq, and_true]
    refine ⟨?_, ?_⟩ <;> omega
theorem run4 (a : ByteArray) (hs : (4 : Int) ≤ a.size) (hq : bt a 0 / 64 = 2) : ∃ v, pack_TakeNum.l0 20 a 4 (bt a 0 % 64) 1 = (if sizeI v = 4 then some (v, a.extract 4 a.size, 0) else some (0, (⟨#[]⟩ : ByteArray), 3)) ∧ inU64 v ∧ (sizeI v = 4 → numL v = [bt a 0, bt a 1, bt a 2, bt a 3]) := by
  have r0 := bt_range a 0
  have r1 := bt_range a 1
  have r2 := bt_range a 2
  have r3 := bt_range a 3
  obtain ⟨x1, e1⟩ : ∃ x, x = bt a 0 % 64 := ⟨_, rfl⟩
  obtain ⟨x2, e2⟩ : ∃ x, x = x1 * 256 + bt a 1 := ⟨_, rfl⟩
  obtain ⟨x3, e3⟩ : ∃ x, x = x2 * 256 + bt a 2 := ⟨_, rfl⟩
  obtain ⟨x4, e4⟩ : ∃ x, x = x3 * 256 + bt a 3 := ⟨_, rfl⟩
  refine ⟨x4, ?_, ?_, ?_⟩
  · rw [← e1]
    rw [take_step 19 a 4 x1 1 (bt a 1) x2 (by omega) (by omega) (by omega) rfl r1 (by omega) (by omega) e2.symm (by omega)]
    rw [(by omega : (1 : Int) + 1 = 2)]
    rw [take_step 18 a 4 x2 2 (bt a 2) x3 (by omega) (by omega) (by omega) rfl r2 (by omega) (by omega) e3.symm (by omega)]
    rw [(by omega : (2 : Int) + 1 = 3)]
    rw [take_step 17 a 4 x3 3 (bt a 3) x4 (by omega) (by omega) (by omega) rfl r3 (by omega) (by omega) e4.symm (by omega)]
    rw [(by omega : (3 : Int) + 1 = 4)]
    rw [end_step 16 a 4 x4 4 (by unfold inU64; omega) (by omega) hs (by omega)]
    rfl
  · unfold inU64; omega
  · intro hz
    have hv : 16384 ≤ x4 ∧ x4 < 1073741824 := by have := sizeI_cases x4; omega
    unfold numL
    rw [if_neg (by omega), if_neg (by omega), if_pos hv.2, num4_eq hv.1 hv.2]
    simp only [List.cons.injEq, and_true]
    refine ⟨?_, ?_, ?_, ?_⟩ <;> omega
theorem run8 (a : ByteArray) (hs : (8 : Int) ≤ a.size) (hq : bt a 0 / 64 = 3) : ∃ v, pack_TakeNum.l0 20 a 8 (bt a 0 % 64) 1 = (if sizeI v = 8 then some (v, a.extract 8 a.size, 0) else some (0, (⟨#[]⟩ : ByteArray), 3)) ∧ inU64 v ∧ (sizeI v = 8 → numL v = [bt a 0, bt a 1, bt a 2, bt a 3, bt a 4, bt a 5, bt a 6, bt a 7]) := by
  have r0 := bt_range a 0
  have r1 := bt_range a 1
  have r2 := bt_range a 2
  have r3 := bt_range a 3
  have r4 := bt_range a 4
  have r5 := bt_range a 5
  have r6 := bt_range a 6
  have r7 := bt_range a 7
  obtain ⟨x1, e1⟩ : ∃ x, x = bt a 0 % 64 := ⟨_, rfl⟩
  obtain ⟨x2, e2⟩ : ∃ x, x = x1 * 256 + bt a 1 := ⟨_, rfl⟩
  obtain ⟨x3, e3⟩ : ∃ x, x = x2 * 256 + bt a 2 := ⟨_, rfl⟩
  obtain ⟨x4, e4⟩ : ∃ x, x = x3 * 256 + bt a 3 := ⟨_, rfl⟩
  obtain ⟨x5, e5⟩ : ∃ x, x = x4 * 256 + bt a 4 := ⟨_, rfl⟩
  obtain ⟨x6, e6⟩ : ∃ x, x = x5 * 256 + bt a 5 := ⟨_, rfl⟩
  obtain ⟨x7, e7⟩ : ∃ x, x = x6 * 256 + bt a 6 := ⟨_, rfl⟩
  obtain ⟨x8, e8⟩ : ∃ x, x = x7 * 256 + bt a 7 := ⟨_, rfl⟩
  refine ⟨x8, ?_, ?_, ?_⟩
  · rw [← e1]
    rw [take_step 19 a 8 x1 1 (bt a 1) x2 (by omega) (by omega) (by omega) rfl r1 (by omega) (by omega) e2.symm (by omega)]
    rw [(by omega : (1 : Int) + 1 = 2)]
    rw [take_step 18 a 8 x2 2 (bt a 2) x3 (by omega) (by omega) (by omega) rfl r2 (by omega) (by omega) e3.symm (by omega)]
    rw [(by omega : (2 : Int) + 1 = 3)]
    rw [take_step 17 a 8 x3 3 (bt a 3) x4 (by omega) (by omega) (by omega) rfl r3 (by omega) (by omega) e4.symm (by omega)]
    rw [(by omega : (3 : Int) + 1 = 4)]
    rw [take_step 16 a 8 x4 4 (bt a 4) x5 (by omega) (by omega) (by omega) rfl r4 (by omega) (by omega) e5.symm (by omega)]
    rw [(by omega : (4 : Int) + 1 = 5)]
    rw [take_step 15 a 8 x5 5 (bt a 5) x6 (by omega) (by omega) (by omega) rfl r5 (by omega) (by omega) e6.symm (by omega)]
    rw [(by omega : (5 : Int) + 1 = 6)]
    rw [take_step 14 a 8 x6 6 (bt a 6) x7 (by omega) (by omega) (by omega) rfl r6 (by omega) (by omega) e7.symm (by omega)]
    rw [(by omega : (6 : Int) + 1 = 7)]
    rw [take_step 13 a 8 x7 7 (bt a 7) x8 (by omega) (by omega) (by omega) rfl r7 (by omega) (by omega) e8.symm (by omega)]
    rw [(by omega : (7 : Int) + 1 = 8)]
    rw [end_step 12 a 8 x8 8 (by unfold inU64; omega) (by omega) hs (by omega)]
    rfl
  · unfold inU64; omega
  · intro hz
    have hv : 1073741824 ≤ x8 ∧ x8 < 4611686018427387904 := by have := sizeI_cases x8; omega
    unfold numL
    rw [if_neg (by omega), if_neg (by omega), if_neg (by omega), if_pos hv.2, num8_eq hv.1 hv.2]
    simp only [List.cons.injEq, and_true]
    refine ⟨?_, ?_, ?_, ?_, ?_, ?_, ?_, ?_⟩ <;> omega
theorem take_short (k : Nat) (a : ByteArray) (n : Int) (hn : shl .i64 1 (bt a 0 / 64) = n) (m : Nat) (hm : (m : Int) < n) (hma : m ≤ a.size) : pack_TakeNum.f k (a.extract 0 m) = some (0, (⟨#[]⟩ : ByteArray), 2) := by
  have hz : (a.extract 0 m).size = m := by rw [ByteArray.size_extract]; omega
  unfold pack_TakeNum.f
  by_cases h0 : m = 0
  · rw [if_pos (toList_nil.mpr (by omega))]
  · have hb : bt (a.extract 0 m) 0 = bt a 0 := by
      have h1 := bt_at (a.extract 0 m) 0 (by rw [hz]; show 0 < m; omega)
      have h2 := bt_at a 0 (by show 0 < a.size; omega)
      rw [← h1, ← h2]
      congr 1
      show ((a.extract 0 m)[0]'_).toNat = (a[0]'_).toNat
      rw [ByteArray.getElem_extract]
    obtain ⟨hb0, hb1⟩ := bt_range a 0
    rw [if_neg (by rw [toList_nil]; omega), if_pos (by omega), hb, if_pos (by omega), hn, if_pos (by omega)]
theorem take_full (a : ByteArray) : (∃ e, e ≠ 0 ∧ pack_TakeNum.f 20 a = some (0, (⟨#[]⟩ : ByteArray), e)) ∨
    ∃ (n : Nat) (v : Int), 1 ≤ n ∧ n ≤ 8 ∧ n ≤ a.size ∧ pack_TakeNum.f 20 a = some (v, a.extract n a.size, 0) ∧ inU64 v ∧ v < 4611686018427387904 ∧ strOfNums (numL v) = a.extract 0 n ∧ ∀ k m, m < n → pack_TakeNum.f k (a.extract 0 m) = some (0, (⟨#[]⟩ : ByteArray), 2) := by
  by_cases h0 : (a.size : Int) = 0
  · refine Or.inl ⟨2, by omega, ?_⟩
    unfold pack_TakeNum.f
    rw [if_pos (toList_nil.mpr h0)]
  · obtain ⟨hb0, hb1⟩ := bt_range a 0
    have key : ∀ (n : Nat) (q : Int), 1 ≤ n → n ≤ 8 → bt a 0 / 64 = q → shl .i64 1 q = (n : Int) →
        (n ≤ a.size → ∃ v, pack_TakeNum.l0 20 a (n : Int) (bt a 0 % 64) 1 = (if sizeI v = (n : Int) then some (v, a.extract n a.size, 0) else some (0, (⟨#[]⟩ : ByteArray), 3)) ∧ inU64 v ∧ (sizeI v = (n : Int) → strOfNums (numL v) = a.extract 0 n)) →
        (∃ e, e ≠ 0 ∧ pack_TakeNum.f 20 a = some (0, (⟨#[]⟩ : ByteArray), e)) ∨
        ∃ (n : Nat) (v : Int), 1 ≤ n ∧ n ≤ 8 ∧ n ≤ a.size ∧ pack_TakeNum.f 20 a = some (v, a.extract n a.size, 0) ∧ inU64 v ∧ v < 4611686018427387904 ∧ strOfNums (numL v) = a.extract 0 n ∧ ∀ k m, m < n → pack_TakeNum.f k (a.extract 0 m) = some (0, (⟨#[]⟩ : ByteArray), 2) := by
      intro n q h1 h8 hq hsh hrun
      have hshort := fun (k m : Nat) (hm : m < n) (hma : m ≤ a.size) => take_short k a (n : Int) (by rw [hq]; exact hsh) m (by omega) hma
      have hf : pack_TakeNum.f 20 a = if (a.size : Int) < (n : Int) then some (0, (⟨#[]⟩ : ByteArray), 2) else pack_TakeNum.l0 20 a (n : Int) (bt a 0 % 64) 1 := by
        unfold pack_TakeNum.f
        rw [if_neg (by rw [toList_nil]; exact h0), if_pos (by omega), if_pos (by omega), hq, hsh, and63]
      by_cases hs : (a.size : Int) < (n : Int)
      · refine Or.inl ⟨2, by omega, ?_⟩
        rw [hf, if_pos hs]
      · obtain ⟨v, hv, hi, hL⟩ := hrun (by omega)
        rw [if_neg hs, hv] at hf
        by_cases hz : sizeI v = (n : Int)
        · rw [if_pos hz] at hf
          refine Or.inr ⟨n, v, h1, h8, by omega, hf, hi, ?_, hL hz, fun k m hm => hshort k m hm (by omega)⟩
          have := sizeI_cases v
          omega
        · rw [if_neg hz] at hf
          exact Or.inl ⟨3, by omega, hf⟩
    have hcase : bt a 0 / 64 = 0 ∨ bt a 0 / 64 = 1 ∨ bt a 0 / 64 = 2 ∨ bt a 0 / 64 = 3 := by omega
    rcases hcase with h | h | h | h
    · refine key 1 0 (by omega) (by omega) h (by decide +kernel) (fun hs => ?_)
      obtain ⟨v, hv, hi, hL⟩ := run1 a (by omega) h
      refine ⟨v, hv, hi, fun hz => ?_⟩
      rw [hL hz, ← extract_bytes a 1 hs]
      rfl
    · refine key 2 1 (by omega) (by omega) h (by decide +kernel) (fun hs => ?_)
      obtain ⟨v, hv, hi, hL⟩ := run2 a (by omega) h
      refine ⟨v, hv, hi, fun hz => ?_⟩
      rw [hL hz, ← extract_bytes a 2 hs]
      rfl
    · refine key 4 2 (by omega) (by omega) h (by decide +kernel) (fun hs => ?_)
      obtain ⟨v, hv, hi, hL⟩ := run4 a (by omega) h
      refine ⟨v, hv, hi, fun hz => ?_⟩
      rw [hL hz, ← extract_bytes a 4 hs]
      rfl
    · refine key 8 3 (by omega) (by omega) h (by decide +kernel) (fun hs => ?_)
      obtain ⟨v, hv, hi, hL⟩ := run8 a (by omega) h
      refine ⟨v, hv, hi, fun hz => ?_⟩
      rw [hL hz, ← extract_bytes a 8 hs]
      rfl
end Go.Proofs.Ytfjhlcbpogihmaa.Pr
namespace Go.Proofs.Ytfjhlcbpogihmaa.Pr
open Go.RowKit Go.Proofs.YtfjhlcbpogihmaaW.PrintWords Go.Proofs.YtfjhlcbpogihmaaW.PrintLast Go.Proofs.YtfjhlcbpogihmaaW.PrintMore
open Go.Proofs.Ytfjhlcbpogihmaa.Hnd
set_option linter.unusedVariables false
set_option linter.unusedSimpArgs false
/-- The bytes of numbers, behind those that are there, as the document has it. -/
def rnumsF (k : Nat) : List Int → List UInt8 → Option (ByteArray × Int)
  | [], acc => some (⟨acc.toArray⟩, 0)
  | v :: r, acc => (ferruleref01_Num.f k v).bind fun b => if b.2 = 0 then (if acc.length + b.1.size ≤ 140737488355328 then rnumsF k r (acc ++ b.1.data.toList) else none) else some ((⟨#[]⟩ : ByteArray), b.2)
def ref_Nums.f (k : Nat) (l0 : List Int) : Option (ByteArray × Int) := if l0.length ≤ 1048576 then (ferruleref01_Num.f k (l0.length : Int)).bind fun b => (if b.1.size ≤ 140737488355328 then rnumsF k l0 b.1.data.toList else none) else none
end Go.Proofs.Ytfjhlcbpogihmaa.Pr
namespace Go.Proofs.Ytfjhlcbpogihmaa.Pr
open Go.RowKit Go.Proofs.YtfjhlcbpogihmaaW.PrintWords Go.Proofs.YtfjhlcbpogihmaaW.PrintLast Go.Proofs.YtfjhlcbpogihmaaW.PrintMore
attribute [local go_sem] max2_int max_four
set_option linter.unusedVariables false
set_option linter.unusedSimpArgs false
/-! ### ferruleref01_Text: function 62 -/
def ferruleref01_Text.f (k : Nat) (a0 : ByteArray) : Option (ByteArray × Int) := if (a0.size : Int) > 4096 then (some ((⟨#[]⟩ : ByteArray), 4)) else ((ferruleref01_Num.f k (a0.size : Int)).bind fun bt405 => (if bt405.1.size + a0.size ≤ 9223372036854775807 then (some (bt405.1 ++ a0, 0)) else (none)))
/-! ### ferruleref02_four: function 88 -/
def ferruleref02_four.f (a0 : Int) : Option (ByteArray) := some (strOfNums (([((Int.tdiv a0 16777216) % 4294967296) % 256, ((Int.tdiv a0 65536) % 4294967296) % 256, ((Int.tdiv a0 256) % 4294967296) % 256, (Int.tmod a0 256) % 256] : List Int)))
end Go.Proofs.Ytfjhlcbpogihmaa.Pr
namespace Go.Proofs.Ytfjhlcbpogihmaa.Pr
open Go.RowKit Go.Proofs.YtfjhlcbpogihmaaW.PrintWords Go.Proofs.YtfjhlcbpogihmaaW.PrintLast Go.Proofs.YtfjhlcbpogihmaaW.PrintMore
attribute [local go_sem] max2_int max_four
set_option linter.unusedVariables false
set_option linter.unusedSimpArgs false
/-! ### ferruleref01_TakeNums: function 74 -/
mutual
def ferruleref01_TakeNums.j0 : Nat → Int → ByteArray → Bool → Option (List Int × ByteArray × Int)
  | 0, _, _, _ => none
  | k + 1, x7, x8, x31 => if x31 = true then (some (([] : List Int), (⟨#[]⟩ : ByteArray), 4)) else (ferruleref01_TakeNums.l0 k x7 x8 ([] : List Int) 0)
def ferruleref01_TakeNums.l0 : Nat → Int → ByteArray → List Int → Int → Option (List Int × ByteArray × Int)
  | 0, _, _, _, _ => none
  | k + 1, x7, x8, x10, x11 => if x11 < x7 then ((ferruleref01_TakeNum.f k x8).bind fun bt495 => (if bt495.2.2 = 0 then (if x10.length < 17592186044416 then (ferruleref01_TakeNums.l0 k x7 bt495.2.1 (x10 ++ [bt495.1]) (IntKind.u64.wrap (x11 + 1))) else (none)) else (some (([] : List Int), (⟨#[]⟩ : ByteArray), bt495.2.2)))) else (some (x10, x8, 0))
end
def ferruleref01_TakeNums.f (k : Nat) (a0 : ByteArray) (a1 : Int) : Option (List Int × ByteArray × Int) := (ferruleref01_TakeNum.f k a0).bind fun bt492 => (if bt492.2.2 = 0 then (if a1 < 0 then (ferruleref01_TakeNums.j0 k bt492.1 bt492.2.1 true) else (ferruleref01_TakeNums.j0 k bt492.1 bt492.2.1 (decide (bt492.1 > (IntKind.u64.wrap (a1)))))) else (some (([] : List Int), (⟨#[]⟩ : ByteArray), bt492.2.2)))
end Go.Proofs.Ytfjhlcbpogihmaa.Pr
namespace Go.Proofs.Ytfjhlcbpogihmaa.Pr
open Go.RowKit Go.Proofs.YtfjhlcbpogihmaaW.PrintWords Go.Proofs.YtfjhlcbpogihmaaW.PrintLast Go.Proofs.YtfjhlcbpogihmaaW.PrintMore
attribute [local go_sem] max2_int max_four
set_option linter.unusedVariables false
set_option linter.unusedSimpArgs false
/-! ### ferruleref01_TakeText: function 76 -/
def ferruleref01_TakeText.f (k : Nat) (a0 : ByteArray) : Option (ByteArray × ByteArray × Int) := (ferruleref01_TakeNum.f k a0).bind fun bt590 => (if bt590.2.2 = 0 then (if bt590.1 > 4096 then (some ((⟨#[]⟩ : ByteArray), (⟨#[]⟩ : ByteArray), 4)) else (if bt590.1 > (IntKind.u64.wrap ((bt590.2.1.size : Int))) then (some ((⟨#[]⟩ : ByteArray), (⟨#[]⟩ : ByteArray), 2)) else (if 0 ≤ bt590.1 then (if bt590.1 ≤ (bt590.2.1.size : Int) then (some (bt590.2.1.extract 0 (bt590.1 : Int).toNat, bt590.2.1.extract (bt590.1 : Int).toNat bt590.2.1.size, 0)) else (none)) else (none)))) else (some ((⟨#[]⟩ : ByteArray), (⟨#[]⟩ : ByteArray), bt590.2.2)))
end Go.Proofs.Ytfjhlcbpogihmaa.Pr
namespace Go.Proofs.Ytfjhlcbpogihmaa.Pr
open Go.RowKit Go.Proofs.YtfjhlcbpogihmaaW.PrintWords Go.Proofs.YtfjhlcbpogihmaaW.PrintLast Go.Proofs.YtfjhlcbpogihmaaW.PrintMore
set_option linter.unusedVariables false
set_option linter.unusedSimpArgs false
theorem numL_le8 (v : Int) : (strOfNums (numL v)).size ≤ 8 := by
  have h := size_num v
  rcases sizeI_cases v with h1 | h1 | h1 | h1 | h1 <;> omega
end Go.Proofs.Ytfjhlcbpogihmaa.Pr
namespace Go.Proofs.Ytfjhlcbpogihmaa.Pr
open Go.RowKit Go.Proofs.YtfjhlcbpogihmaaW.PrintWords Go.Proofs.YtfjhlcbpogihmaaW.PrintLast Go.Proofs.YtfjhlcbpogihmaaW.PrintMore
attribute [local go_sem] max2_int max_four
set_option linter.unusedVariables false
set_option linter.unusedSimpArgs false
/-! ### ferruleref02_Sum: function 89 -/
def ferruleref02_Sum.l0 : Nat → ByteArray → Int → Int → Int → Option (Int)
  | 0, _, _, _, _ => none
  | k + 1, x0, x3, x4, x5 => if x5 < (x0.size : Int) then (if 0 ≤ x5 then (ferruleref02_Sum.l0 k x0 (((x3 + ((bt x0 x5) % 4294967296)) % 4294967296) % 65521) (((x4 + (((x3 + ((bt x0 x5) % 4294967296)) % 4294967296) % 65521)) % 4294967296) % 65521) (wrap64 (x5 + 1))) else (none)) else (some ((((x4 * 65536) % 4294967296) + x3) % 4294967296))
def ferruleref02_Sum.f (k : Nat) (a0 : ByteArray) : Option (Int) := ferruleref02_Sum.l0 k a0 1 0 0
end Go.Proofs.Ytfjhlcbpogihmaa.Pr
namespace Go.Proofs.Ytfjhlcbpogihmaa.Pr
open Go.RowKit Go.Proofs.YtfjhlcbpogihmaaW.PrintWords Go.Proofs.YtfjhlcbpogihmaaW.PrintLast Go.Proofs.YtfjhlcbpogihmaaW.PrintMore
theorem sum_f (s : ByteArray) (hs : s.size ≤ 4611686018427387904) : seal_Sum.f s = some (sumI s) := by
  unfold seal_Sum.f
  rw [if_pos hs]
end Go.Proofs.Ytfjhlcbpogihmaa.Pr
namespace Go.Proofs.Ytfjhlcbpogihmaa.Pr
open Go.RowKit Go.Proofs.YtfjhlcbpogihmaaW.PrintWords Go.Proofs.YtfjhlcbpogihmaaW.PrintLast Go.Proofs.YtfjhlcbpogihmaaW.PrintMore
attribute [local go_sem] max2_int max_four
set_option linter.unusedVariables false
set_option linter.unusedSimpArgs false
/-! ### ferruleref02_Put: function 63 -/
def ferruleref02_Put.f (k : Nat) (a0 : ByteArray) : Option (ByteArray × Int) := if (a0.size : Int) > 65536 then (some ((⟨#[]⟩ : ByteArray), 4)) else ((ferruleref01_Num.f k (a0.size : Int)).bind fun bt410 => (if bt410.1.size + a0.size ≤ 9223372036854775807 then ((ferruleref02_Sum.f k (bt410.1 ++ a0)).bind fun t412 => ((ferruleref02_four.f t412).bind fun t413 => (if (bt410.1 ++ a0).size + t413.size ≤ 9223372036854775807 then (some ((bt410.1 ++ a0) ++ t413, 0)) else (none)))) else (none)))
end Go.Proofs.Ytfjhlcbpogihmaa.Pr
namespace Go.Proofs.Ytfjhlcbpogihmaa.Pr
open Go.RowKit Go.Proofs.YtfjhlcbpogihmaaW.PrintWords Go.Proofs.YtfjhlcbpogihmaaW.PrintLast Go.Proofs.YtfjhlcbpogihmaaW.PrintMore
/-- A sum's bytes. -/
def tailB (v : Int) : ByteArray := strOfNums [(v / 16777216) % 256, (v / 65536) % 256, (v / 256) % 256, v % 256]
theorem tail_f (v : Int) : seal_tail.f v = some (tailB v) := rfl
theorem tailB_size (v : Int) : (tailB v).size = 4 := strOfNums_size _
/-- What stands ahead of the sum. -/
def headB (a : ByteArray) : ByteArray := strOfNums (numL (a.size : Int)) ++ a
theorem headB_size (a : ByteArray) : ((headB a).size : Int) = sizeI (a.size : Int) + a.size := by
  unfold headB
  rw [ByteArray.size_append]
  have := size_num (a.size : Int)
  omega
theorem put_f {a : ByteArray} (h : a.size ≤ 65536) : seal_Put.f a = some (headB a ++ tailB (sumI (headB a)), 0) := by
  have hi : inU64 (a.size : Int) := by unfold inU64; omega
  have hz := sizeI_cases (a.size : Int)
  have hs := size_num (a.size : Int)
  have hh := headB_size a
  have ht := tailB_size (sumI (headB a))
  unfold seal_Put.f
  rw [if_neg (by omega), num_f hi, Option.bind_some]
  try simp only
  rw [if_pos (by omega)]
  show ((seal_Sum.f (headB a)).bind fun t106 => _) = _
  rw [sum_f _ (by omega), Option.bind_some, tail_f, Option.bind_some]
  show (if (headB a).size + _ ≤ 9223372036854775807 then some (headB a ++ _, _) else none) = _
  rw [if_pos (by omega)]
  unfold numE
  rw [if_pos (by omega)]
end Go.Proofs.Ytfjhlcbpogihmaa.Pr
namespace Go.Proofs.Ytfjhlcbpogihmaa.Pr
open Go.RowKit Go.Proofs.YtfjhlcbpogihmaaW.PrintWords Go.Proofs.YtfjhlcbpogihmaaW.PrintLast Go.Proofs.YtfjhlcbpogihmaaW.PrintMore
attribute [local go_sem] max2_int max_four
set_option linter.unusedVariables false
set_option linter.unusedSimpArgs false
/-! ### ferruleref17_May: function 34 -/
mutual
def ferruleref17_May.j0 : Nat → Bool → Int → Int → Int → Int → Int → Int → Int → Bool → List (S75) → ByteArray → Option (Bool)
  | 0, _, _, _, _, _, _, _, _, _, _, _ => none
  | k + 1, x63, x399000, x399001, x399002, x399003, x399004, x399005, x399006, x399007, x399008, x399009 => if x63 = true then (some false) else (ferruleref17_May.l0 k 0 x399000 x399001 x399002 x399003 x399004 x399005 x399006 x399007 x399008 x399009)
def ferruleref17_May.l0 : Nat → Int → Int → Int → Int → Int → Int → Int → Int → Bool → List (S75) → ByteArray → Option (Bool)
  | 0, _, _, _, _, _, _, _, _, _, _, _ => none
  | k + 1, x3, x399000, x399001, x399002, x399003, x399004, x399005, x399006, x399007, x399008, x399009 => if x3 < (x399008.length : Int) then (if 0 ≤ x3 then (if ((rd_T75 x399008 x3).f0) > 4611686018427387903 then (some false) else (if (((rd_T75 x399008 x3).f1).size : Int) > 4096 then (some false) else (ferruleref17_May.l0 k (wrap64 (x3 + 1)) x399000 x399001 x399002 x399003 x399004 x399005 x399006 x399007 x399008 x399009))) else (none)) else (if x399000 = 5 then (if x399000 = 6 then (ferruleref17_May.j2 k false x399000 x399001 x399002 x399003 x399004 x399005 x399006 x399007 x399008 x399009) else (ferruleref17_May.j2 k (decide ((x399009.size : Int) > 0)) x399000 x399001 x399002 x399003 x399004 x399005 x399006 x399007 x399008 x399009)) else (if x399006 > 0 then (ferruleref17_May.j2 k true x399000 x399001 x399002 x399003 x399004 x399005 x399006 x399007 x399008 x399009) else (if (x399008.length : Int) > 0 then (ferruleref17_May.j2 k true x399000 x399001 x399002 x399003 x399004 x399005 x399006 x399007 x399008 x399009) else (if x399000 = 6 then (ferruleref17_May.j2 k false x399000 x399001 x399002 x399003 x399004 x399005 x399006 x399007 x399008 x399009) else (ferruleref17_May.j2 k (decide ((x399009.size : Int) > 0)) x399000 x399001 x399002 x399003 x399004 x399005 x399006 x399007 x399008 x399009)))))
def ferruleref17_May.j2 : Nat → Bool → Int → Int → Int → Int → Int → Int → Int → Bool → List (S75) → ByteArray → Option (Bool)
  | 0, _, _, _, _, _, _, _, _, _, _, _ => none
  | k + 1, x112, x399000, x399001, x399002, x399003, x399004, x399005, x399006, x399007, x399008, x399009 => if x112 = true then (some false) else (if x399000 = 1 then (ferruleref17_May.j3 k x399000 (x399000 == 1) x399000 x399001 x399002 x399003 x399004 x399005 x399006 x399007 x399008 x399009) else (if x399000 = 3 then (ferruleref17_May.j3 k x399000 (x399000 == 3) x399000 x399001 x399002 x399003 x399004 x399005 x399006 x399007 x399008 x399009) else (if x399000 = 5 then (ferruleref17_May.j3 k x399000 (x399000 == 5) x399000 x399001 x399002 x399003 x399004 x399005 x399006 x399007 x399008 x399009) else (ferruleref17_May.j3 k x399000 (x399000 == 6) x399000 x399001 x399002 x399003 x399004 x399005 x399006 x399007 x399008 x399009))))
def ferruleref17_May.j3 : Nat → Int → Bool → Int → Int → Int → Int → Int → Int → Int → Bool → List (S75) → ByteArray → Option (Bool)
  | 0, _, _, _, _, _, _, _, _, _, _, _, _ => none
  | k + 1, x114, x115, x399000, x399001, x399002, x399003, x399004, x399005, x399006, x399007, x399008, x399009 => if x115 = true then (some (!x399007)) else (if x114 = 2 then (if x399004 = 0 then (some (x399005 == 0)) else (some false)) else (if x114 = 4 then (if x399004 = 0 then (some (x399005 == 0)) else (some false)) else (some (x399005 == 0))))
end
def ferruleref17_May.f (k : Nat) (a0_0 : Int) (a0_1 : Int) (a0_2 : Int) (a0_3 : Int) (a0_4 : Int) (a0_5 : Int) (a0_6 : Int) (a0_7 : Bool) (l0_8 : List (S75)) (a0_9 : ByteArray) : Option (Bool) := if a0_0 < 1 then (ferruleref17_May.j0 k true a0_0 a0_1 a0_2 a0_3 a0_4 a0_5 a0_6 a0_7 l0_8 a0_9) else (if a0_0 > 7 then (ferruleref17_May.j0 k true a0_0 a0_1 a0_2 a0_3 a0_4 a0_5 a0_6 a0_7 l0_8 a0_9) else (if a0_1 < 1 then (ferruleref17_May.j0 k true a0_0 a0_1 a0_2 a0_3 a0_4 a0_5 a0_6 a0_7 l0_8 a0_9) else (if a0_1 > 63 then (ferruleref17_May.j0 k true a0_0 a0_1 a0_2 a0_3 a0_4 a0_5 a0_6 a0_7 l0_8 a0_9) else (if a0_2 < 1 then (ferruleref17_May.j0 k true a0_0 a0_1 a0_2 a0_3 a0_4 a0_5 a0_6 a0_7 l0_8 a0_9) else (if a0_2 > 63 then (ferruleref17_May.j0 k true a0_0 a0_1 a0_2 a0_3 a0_4 a0_5 a0_6 a0_7 l0_8 a0_9) else (if a0_3 > 4611686018427387903 then (ferruleref17_May.j0 k true a0_0 a0_1 a0_2 a0_3 a0_4 a0_5 a0_6 a0_7 l0_8 a0_9) else (if a0_4 > 4611686018427387903 then (ferruleref17_May.j0 k true a0_0 a0_1 a0_2 a0_3 a0_4 a0_5 a0_6 a0_7 l0_8 a0_9) else (if a0_5 > 4611686018427387903 then (ferruleref17_May.j0 k true a0_0 a0_1 a0_2 a0_3 a0_4 a0_5 a0_6 a0_7 l0_8 a0_9) else (if a0_6 > 4611686018427387903 then (ferruleref17_May.j0 k true a0_0 a0_1 a0_2 a0_3 a0_4 a0_5 a0_6 a0_7 l0_8 a0_9) else (if (l0_8.length : Int) > 8 then (ferruleref17_May.j0 k true a0_0 a0_1 a0_2 a0_3 a0_4 a0_5 a0_6 a0_7 l0_8 a0_9) else (ferruleref17_May.j0 k (decide ((a0_9.size : Int) > 4096)) a0_0 a0_1 a0_2 a0_3 a0_4 a0_5 a0_6 a0_7 l0_8 a0_9)))))))))))
namespace Sh32
end Sh32
open Sh32
end Go.Proofs.Ytfjhlcbpogihmaa.Pr
namespace Go.Proofs.Ytfjhlcbpogihmaa.Pr
open Go.RowKit Go.Proofs.YtfjhlcbpogihmaaW.PrintWords Go.Proofs.YtfjhlcbpogihmaaW.PrintLast Go.Proofs.YtfjhlcbpogihmaaW.PrintMore
attribute [local go_sem] max2_int max_four
set_option linter.unusedVariables false
set_option linter.unusedSimpArgs false
end Go.Proofs.Ytfjhlcbpogihmaa.Pr
namespace Go.Proofs.Ytfjhlcbpogihmaa.Pr
open Go.RowKit Go.Proofs.YtfjhlcbpogihmaaW.PrintWords Go.Proofs.YtfjhlcbpogihmaaW.PrintLast Go.Proofs.YtfjhlcbpogihmaaW.PrintMore
attribute [local go_sem] max2_int max_four
set_option linter.unusedVariables false
set_option linter.unusedSimpArgs false
attribute [local go_sem high] eqA75
/-! ### api_Entry: function 69 -/
def api_Entry.l0 : Nat → List (S75) → List (S75) → Int → Int → Option (Bool)
  | 0, _, _, _, _ => none
  | k + 1, x0, x1, x12, x13 => if x13 < x12 then (if 0 ≤ x13 then (if x13 < (x0.length : Int) then (if x13 < (x1.length : Int) then (if (!(((rd_T75 x0 x13).f0) == ((rd_T75 x1 x13).f0)) || (!((((rd_T75 x0 x13).f1).toList) == (((rd_T75 x1 x13).f1).toList)))) = true then (some false) else (api_Entry.l0 k x0 x1 x12 (wrap64 (x13 + 1)))) else (none)) else (none)) else (none)) else (some true)
def api_Entry.f (k : Nat) (l0 : List (S75)) (l1 : List (S75)) : Option (Bool) := if (l0.length : Int) = (l1.length : Int) then (api_Entry.l0 k l0 l1 (l0.length : Int) 0) else (some false)
end Go.Proofs.Ytfjhlcbpogihmaa.Pr
namespace Go.Proofs.Ytfjhlcbpogihmaa.Pr
open Go.RowKit Go.Proofs.YtfjhlcbpogihmaaW.PrintWords Go.Proofs.YtfjhlcbpogihmaaW.PrintLast Go.Proofs.YtfjhlcbpogihmaaW.PrintMore
attribute [local go_sem] max2_int max_four
set_option linter.unusedVariables false
set_option linter.unusedSimpArgs false
/-! ### post_Same: function 37 -/
def post_Same.f (k : Nat) (a0_0 : Int) (a0_1 : Int) (a0_2 : Int) (a0_3 : Int) (a0_4 : Int) (a0_5 : Int) (a0_6 : Int) (a0_7 : Bool) (l0_8 : List (S75)) (a0_9 : ByteArray) (a1_0 : Int) (a1_1 : Int) (a1_2 : Int) (a1_3 : Int) (a1_4 : Int) (a1_5 : Int) (a1_6 : Int) (a1_7 : Bool) (l1_8 : List (S75)) (a1_9 : ByteArray) : Option (Bool) := if a0_0 = a1_0 then ((post_headOf.f a0_0 a0_1 a0_2 a0_3 a0_4 a0_5 a0_6 a0_7 l0_8 a0_9).bind fun bt461 => ((post_headOf.f a1_0 a1_1 a1_2 a1_3 a1_4 a1_5 a1_6 a1_7 l1_8 a1_9).bind fun bt470 => (if (bt461.1 == bt470.1 && (bt461.2.1 == bt470.2.1 && (bt461.2.2.1 == bt470.2.2.1 && (bt461.2.2.2.1 == bt470.2.2.2.1 && (bt461.2.2.2.2.1 == bt470.2.2.2.2.1 && (bt461.2.2.2.2.2.1 == bt470.2.2.2.2.2.1 && (bt461.2.2.2.2.2.2.1 == bt470.2.2.2.2.2.2.1 && (bt461.2.2.2.2.2.2.2.1 == bt470.2.2.2.2.2.2.2.1 && (bt461.2.2.2.2.2.2.2.2.toList == bt470.2.2.2.2.2.2.2.2.toList))))))))) = true then ((api_Entry.f k l0_8 l1_8).bind fun t479 => (some t479)) else (some false)))) else (some false)
namespace Sh47
end Sh47
open Sh47
end Go.Proofs.Ytfjhlcbpogihmaa.Pr
namespace Go.Proofs.Ytfjhlcbpogihmaa.Pr
open Go.RowKit Go.Proofs.YtfjhlcbpogihmaaW.PrintWords Go.Proofs.YtfjhlcbpogihmaaW.PrintLast Go.Proofs.YtfjhlcbpogihmaaW.PrintMore
attribute [local go_sem] max2_int max_four
set_option linter.unusedVariables false
set_option linter.unusedSimpArgs false
/-! ### ferruleref02_Take: function 70 -/
def ferruleref02_Take.f (k : Nat) (a0 : ByteArray) : Option (ByteArray × ByteArray × Int) := (ferruleref01_TakeNum.f k a0).bind fun bt487 => (if bt487.2.2 = 0 then (if bt487.1 > 65536 then (some ((⟨#[]⟩ : ByteArray), (⟨#[]⟩ : ByteArray), 4)) else (if (IntKind.u64.wrap ((bt487.2.1.size : Int))) < (IntKind.u64.wrap (bt487.1 + 4)) then (some ((⟨#[]⟩ : ByteArray), (⟨#[]⟩ : ByteArray), 2)) else (if 0 ≤ (wrap64 ((wrap64 ((a0.size : Int) - (bt487.2.1.size : Int))) + (wrap64 (bt487.1)))) then (if (wrap64 ((wrap64 ((a0.size : Int) - (bt487.2.1.size : Int))) + (wrap64 (bt487.1)))) ≤ (a0.size : Int) then ((ferruleref02_Sum.f k (a0.extract 0 ((wrap64 ((wrap64 ((a0.size : Int) - (bt487.2.1.size : Int))) + (wrap64 (bt487.1)))) : Int).toNat)).bind fun t490 => ((ferruleref02_four.f t490).bind fun t491 => (if 0 ≤ bt487.1 then (if bt487.1 ≤ (IntKind.u64.wrap (bt487.1 + 4)) then (if (IntKind.u64.wrap (bt487.1 + 4)) ≤ (bt487.2.1.size : Int) then (if t491.toList = (bt487.2.1.extract (bt487.1 : Int).toNat ((IntKind.u64.wrap (bt487.1 + 4)) : Int).toNat).toList then (if bt487.1 ≤ (bt487.2.1.size : Int) then (if 0 ≤ (IntKind.u64.wrap (bt487.1 + 4)) then (some (bt487.2.1.extract 0 (bt487.1 : Int).toNat, bt487.2.1.extract ((IntKind.u64.wrap (bt487.1 + 4)) : Int).toNat bt487.2.1.size, 0)) else (none)) else (none)) else (some ((⟨#[]⟩ : ByteArray), (⟨#[]⟩ : ByteArray), 3))) else (none)) else (none)) else (none)))) else (none)) else (none)))) else (some ((⟨#[]⟩ : ByteArray), (⟨#[]⟩ : ByteArray), bt487.2.2)))
end Go.Proofs.Ytfjhlcbpogihmaa.Pr
namespace Go.Proofs.Ytfjhlcbpogihmaa.Pr
open Go.RowKit Go.Proofs.YtfjhlcbpogihmaaW.PrintWords Go.Proofs.YtfjhlcbpogihmaaW.PrintLast Go.Proofs.YtfjhlcbpogihmaaW.PrintMore
attribute [local go_sem] max2_int max_four
set_option linter.unusedVariables false
set_option linter.unusedSimpArgs false
/-! ### ferruleref17_Take: function 40 -/
mutual
def ferruleref17_Take.j0 : Nat → ByteArray → Bool → Option (Int × Int × Int × Int × Int × Int × Int × Bool × (List (S75)) × ByteArray × Int)
  | 0, _, _ => none
  | k + 1, x4, x40 => if x40 = true then (some (0, 0, 0, 0, 0, 0, 0, false, ([] : List (S75)), (⟨#[]⟩ : ByteArray), 3)) else ((ferruleref01_TakeNums.f k x4 7).bind fun bt597 => (if bt597.2.2 = 0 then (if (bt597.1.length : Int) = 7 then (if 0 < (bt597.1.length : Int) then (ferruleref17_Take.j1 k bt597.1 bt597.2.1 (decide ((rd bt597.1 0) > 7))) else (none)) else (ferruleref17_Take.j1 k bt597.1 bt597.2.1 true)) else (ferruleref17_Take.j1 k bt597.1 bt597.2.1 true)))
def ferruleref17_Take.j1 : Nat → List Int → ByteArray → Bool → Option (Int × Int × Int × Int × Int × Int × Int × Bool × (List (S75)) × ByteArray × Int)
  | 0, _, _, _ => none
  | k + 1, x7, x8, x60 => if x60 = true then (some (0, 0, 0, 0, 0, 0, 0, false, ([] : List (S75)), (⟨#[]⟩ : ByteArray), 3)) else (if 0 < (x7.length : Int) then (if 1 < (x7.length : Int) then (if 2 < (x7.length : Int) then (if 3 < (x7.length : Int) then (if 4 < (x7.length : Int) then (if 5 < (x7.length : Int) then (if 6 < (x7.length : Int) then ((ferruleref01_TakeNum.f k x8).bind fun bt611 => (if bt611.2.2 = 0 then (ferruleref17_Take.j2 k bt611.1 bt611.2.1 (decide (bt611.1 > 1)) (wrap64 (rd x7 0)) (rd x7 1) (rd x7 2) (rd x7 3) (rd x7 4) (rd x7 5) (rd x7 6) false (⟨#[]⟩ : ByteArray)) else (ferruleref17_Take.j2 k bt611.1 bt611.2.1 true (wrap64 (rd x7 0)) (rd x7 1) (rd x7 2) (rd x7 3) (rd x7 4) (rd x7 5) (rd x7 6) false (⟨#[]⟩ : ByteArray)))) else (none)) else (none)) else (none)) else (none)) else (none)) else (none)) else (none))
def ferruleref17_Take.j2 : Nat → Int → ByteArray → Bool → Int → Int → Int → Int → Int → Int → Int → Bool → ByteArray → Option (Int × Int × Int × Int × Int × Int × Int × Bool × (List (S75)) × ByteArray × Int)
  | 0, _, _, _, _, _, _, _, _, _, _, _, _ => none
  | k + 1, x11, x12, x96, x611000, x611001, x611002, x611003, x611004, x611005, x611006, x611007, x611009 => if x96 = true then (some (0, 0, 0, 0, 0, 0, 0, false, ([] : List (S75)), (⟨#[]⟩ : ByteArray), 3)) else ((ferruleref01_TakeNum.f k x12).bind fun bt614 => (if bt614.2.2 = 0 then (ferruleref17_Take.j3 k x11 bt614.1 bt614.2.1 (decide (bt614.1 > 8)) x611000 x611001 x611002 x611003 x611004 x611005 x611006 x611007 x611009) else (ferruleref17_Take.j3 k x11 bt614.1 bt614.2.1 true x611000 x611001 x611002 x611003 x611004 x611005 x611006 x611007 x611009)))
def ferruleref17_Take.j3 : Nat → Int → Int → ByteArray → Bool → Int → Int → Int → Int → Int → Int → Int → Bool → ByteArray → Option (Int × Int × Int × Int × Int × Int × Int × Bool × (List (S75)) × ByteArray × Int)
  | 0, _, _, _, _, _, _, _, _, _, _, _, _, _ => none
  | k + 1, x11, x14, x15, x109, x611000, x611001, x611002, x611003, x611004, x611005, x611006, x611007, x611009 => if x109 = true then (some (0, 0, 0, 0, 0, 0, 0, false, ([] : List (S75)), (⟨#[]⟩ : ByteArray), 3)) else (ferruleref17_Take.l0 k x14 x15 0 x611000 x611001 x611002 x611003 x611004 x611005 x611006 (x11 == 1) ([] : List (S75)) x611009)
def ferruleref17_Take.l0 : Nat → Int → ByteArray → Int → Int → Int → Int → Int → Int → Int → Int → Bool → List (S75) → ByteArray → Option (Int × Int × Int × Int × Int × Int × Int × Bool × (List (S75)) × ByteArray × Int)
  | 0, _, _, _, _, _, _, _, _, _, _, _, _, _ => none
  | k + 1, x14, x15, x17, x611000, x611001, x611002, x611003, x611004, x611005, x611006, x611007, x611008, x611009 => if x17 < x14 then ((ferruleref01_TakeNum.f k x15).bind fun bt617 => ((ferruleref01_TakeText.f k bt617.2.1).bind fun bt620 => (if bt617.2.2 = 0 then (if bt620.2.2 = 0 then (if x611008.length < 5864062014805 then (ferruleref17_Take.l0 k x14 bt620.2.1 (IntKind.u64.wrap (x17 + 1)) x611000 x611001 x611002 x611003 x611004 x611005 x611006 x611007 (x611008 ++ [(⟨bt617.1, bt620.1⟩ : S75)]) x611009) else (none)) else (some (0, 0, 0, 0, 0, 0, 0, false, ([] : List (S75)), (⟨#[]⟩ : ByteArray), 3))) else (some (0, 0, 0, 0, 0, 0, 0, false, ([] : List (S75)), (⟨#[]⟩ : ByteArray), 3))))) else ((ferruleref01_TakeText.f k x15).bind fun bt626 => ((ferruleref17_May.f k x611000 x611001 x611002 x611003 x611004 x611005 x611006 x611007 x611008 bt626.1).bind fun t629 => (if bt626.2.2 = 0 then (if (bt626.2.1.size : Int) > 0 then (some (0, 0, 0, 0, 0, 0, 0, false, ([] : List (S75)), (⟨#[]⟩ : ByteArray), 3)) else (if t629 = true then (some (x611000, x611001, x611002, x611003, x611004, x611005, x611006, x611007, x611008, bt626.1, 0)) else (some (0, 0, 0, 0, 0, 0, 0, false, ([] : List (S75)), (⟨#[]⟩ : ByteArray), 3)))) else (some (0, 0, 0, 0, 0, 0, 0, false, ([] : List (S75)), (⟨#[]⟩ : ByteArray), 3)))))
end
def ferruleref17_Take.f (k : Nat) (a0 : ByteArray) : Option (Int × Int × Int × Int × Int × Int × Int × Bool × (List (S75)) × ByteArray × Int) := (ferruleref02_Take.f k a0).bind fun bt594 => (if bt594.2.2 = 0 then (ferruleref17_Take.j0 k bt594.1 (decide ((bt594.2.1.size : Int) > 0))) else (ferruleref17_Take.j0 k bt594.1 true))
end Go.Proofs.Ytfjhlcbpogihmaa.Pr
