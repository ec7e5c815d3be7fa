/- What the program's functions compute, and that they compute it: printed out of the translation by a program of this session's (px.py, over the kit's printer). Conditions: none. -/
import Derived.Test.YtgmflfbhifdacaaProg
import Derived.Below
import Derived.Deep.Draws
import Derived.Deep.AppendLies
import Derived.Maps.AppendAt
import Derived.OwnWalk
import Derived.Laws.BytesArg
import Derived.Laws.MakeOwn
import Derived.Laws.OwnMore
import Derived.Deep.OwnRows
import Derived.Tactics
import Derived.Lib.ConvBytes
import Derived.Laws.Slices
import Derived.WalkKit
import Derived.KernelRfl
import Derived.RowKit3
import Derived.Deep.LoopGhost
import Derived.Deep.QuietTactic
import Derived.BigQuiet
import Derived.WideLaws
import Derived.Deep.DeepCutAuto
import Derived.Deep.CutBlock
import Derived.Deep.RegionHeld3
import Derived.Laws.Rows
import Derived.Lib.AppendStr
import Derived.ArgAppend
import Derived.Laws.IdiomCopy
import Derived.OrdersHeld
import Derived.Laws.BitsLemmas
import Derived.RowKit
import Derived.Test.YtgmflfbhifdacaaWWords
import Derived.Test.YtgmflfbhifdacaaWLast
import Derived.Test.YtgmflfbhifdacaaWTab
import Derived.Test.YtgmflfbhifdacaaWFour
import Derived.Test.YtgmflfbhifdacaaWQPut
import Derived.Test.YtgmflfbhifdacaaWApart
import Derived.Test.YtgmflfbhifdacaaWArr
import Derived.Test.YtgmflfbhifdacaaWZeros
import Derived.Test.YtgmflfbhifdacaaWFoot
import Derived.Test.YtgmflfbhifdacaaWKept
import Derived.Test.YtgmflfbhifdacaaWShare
import Derived.Test.YtgmflfbhifdacaaWN
import Derived.Test.YtgmflfbhifdacaaWFootNe
import Derived.Test.YtgmflfbhifdacaaWAt
import Derived.Test.YtgmflfbhifdacaaWEqStruct
import Derived.Test.YtgmflfbhifdacaaWRepsOne
import Derived.Test.YtgmflfbhifdacaaWInv
import Derived.Test.YtgmflfbhifdacaaWInvWords
import Derived.Test.YtgmflfbhifdacaaWGuard
import Derived.Test.YtgmflfbhifdacaaWNEv
import Derived.Test.YtgmflfbhifdacaaWMore
namespace Go.Proofs.Ytgmflfbhifdacaa.Pr
open Go.RowKit Go.Proofs.YtgmflfbhifdacaaW.PrintWords Go.Proofs.YtgmflfbhifdacaaW.PrintLast Go.Proofs.YtgmflfbhifdacaaW.PrintMore
attribute [local go_sem] max2_int min2_int max_two min_two max_three min_three max_four min_four   -- for this text's walks alone
set_option linter.unusedVariables false
set_option linter.unusedSimpArgs false



def errW : Option Int → Value
  | none => .nilIface
  | some c => .iface 0 (.int .i64 c)
theorem errW_none : errW none = .nilIface := rfl
theorem errW_some (c : Int) : errW (some c) = .iface 0 (.int .i64 c) := rfl

theorem info25 : (Try.prog.info? 25).map (fun i => (i.zero, i.size, i.bytes)) = some (some (.agg #[(.int .u64 0), (.int .u64 0)]), 2, 16) := by kernel_rfl
theorem info40 : (Try.prog.info? 40).map (fun i => (i.zero, i.size, i.bytes)) = some (some (.agg #[(.string ⟨#[]⟩), (.int .u64 0), (.int .u64 0), (.bool false)]), 4, 40) := by kernel_rfl
-- the values' own types
/-! #### struct type 25 -/
structure S25 where
  f0 : Int
  f1 : Int
def z25 : S25 := ⟨(0 : Int), (0 : Int)⟩
def k25 : Kd S25 := Kd.iso (Kd.pair (Kd.int .u64) (Kd.int .u64)) (fun x : S25 => (x.f0, x.f1))
theorem k25_heap : Kd.Heap k25 := Kd.heap_iso _ (Kd.heap_pair (Kd.heap_int .u64) (Kd.heap_int .u64))
theorem k25_open {w : World} {x : S25} {cs : List Value} (h : k25.K w x cs) : cs = [.int .u64 x.f0, .int .u64 x.f1] := by
  obtain ⟨_, _, rfl, rfl, rfl⟩ := h
  exact rfl
theorem k25_openM {w : World} {base : Nat} {ok : Nat → Prop} {x : S25} {cs : List Value} (h : k25.M w base ok x cs) : cs = [.int .u64 x.f0, .int .u64 x.f1] := by
  obtain ⟨_, _, rfl, rfl, rfl⟩ := h
  exact rfl
theorem k25_mk (w : World) (x : S25)  : k25.K w x [.int .u64 x.f0, .int .u64 x.f1] := ⟨[.int .u64 x.f0], [.int .u64 x.f1], rfl, rfl, rfl⟩
theorem k25_mkM (w : World) (base : Nat) (ok : Nat → Prop) (x : S25)  : k25.M w base ok x [.int .u64 x.f0, .int .u64 x.f1] := ⟨[.int .u64 x.f0], [.int .u64 x.f1], rfl, rfl, rfl⟩
theorem k25_mkF (W : World) (ok : Nat → Prop) (x : S25) : Kd.FK k25 W ok x [.int .u64 x.f0, .int .u64 x.f1] := fun W2 _ => k25_mk W2 x
def rd_T25 (xs : List S25) (i : Int) : S25 := xs.getD i.toNat z25
theorem at_T25 {w : World} {A : Option Addr} {n : Nat} {xs : List S25} (h : Kd.C k25 w A n xs) (i : Int) (h0 : 0 ≤ i) (h1 : i < n) : ∃ ad , A = some ad ∧ w.cell? (ad.add (i.toNat * 2)) = some (.int .u64 (rd_T25 xs i).f0) ∧ w.cell? ⟨(ad.add (i.toNat * 2)).block, (ad.add (i.toNat * 2)).off + 1, none⟩ = some (.int .u64 (rd_T25 xs i).f1) := by
  obtain ⟨ad, c, e, _, hK, hc0⟩ := Kd.C_get h z25 i h0 h1
  have hc : ∀ j u, c[j]? = some u → w.cell? (ad.add (i.toNat * 2 + j)) = some u := hc0
  obtain rfl := k25_open hK
  exact ⟨ad, e, hc 0 _ rfl, by rw [← add_field _ _ 1 (by omega)]; exact hc 1 _ rfl⟩

/-! #### struct type 40 -/
structure S40 where
  f0 : ByteArray
  f1 : S25
  f2 : Bool
def z40 : S40 := ⟨(⟨#[]⟩ : ByteArray), z25, false⟩
def k40 : Kd S40 := Kd.iso (Kd.pair Kd.string (Kd.pair k25 Kd.bool)) (fun x : S40 => (x.f0, x.f1, x.f2))
theorem k40_heap : Kd.Heap k40 := Kd.heap_iso _ (Kd.heap_pair Kd.heap_string (Kd.heap_pair k25_heap Kd.heap_bool))
theorem k40_open {w : World} {x : S40} {cs : List Value} (h : k40.K w x cs) : cs = [.string x.f0, .int .u64 x.f1.f0, .int .u64 x.f1.f1, .bool x.f2] := by
  obtain ⟨_, _, rfl, rfl, ⟨_, _, rfl, s1, rfl⟩⟩ := h
  obtain rfl := k25_open s1
  exact rfl
theorem k40_openM {w : World} {base : Nat} {ok : Nat → Prop} {x : S40} {cs : List Value} (h : k40.M w base ok x cs) : cs = [.string x.f0, .int .u64 x.f1.f0, .int .u64 x.f1.f1, .bool x.f2] := by
  obtain ⟨_, _, rfl, rfl, ⟨_, _, rfl, s1, rfl⟩⟩ := h
  obtain rfl := k25_openM s1
  exact rfl
theorem k40_mk (w : World) (x : S40)  : k40.K w x [.string x.f0, .int .u64 x.f1.f0, .int .u64 x.f1.f1, .bool x.f2] := ⟨[.string x.f0], [.int .u64 x.f1.f0, .int .u64 x.f1.f1, .bool x.f2], rfl, rfl, ⟨[.int .u64 x.f1.f0, .int .u64 x.f1.f1], [.bool x.f2], rfl, (k25_mk w x.f1 ), rfl⟩⟩
theorem k40_mkM (w : World) (base : Nat) (ok : Nat → Prop) (x : S40)  : k40.M w base ok x [.string x.f0, .int .u64 x.f1.f0, .int .u64 x.f1.f1, .bool x.f2] := ⟨[.string x.f0], [.int .u64 x.f1.f0, .int .u64 x.f1.f1, .bool x.f2], rfl, rfl, ⟨[.int .u64 x.f1.f0, .int .u64 x.f1.f1], [.bool x.f2], rfl, (k25_mkM w base ok x.f1 ), rfl⟩⟩
theorem k40_mkF (W : World) (ok : Nat → Prop) (x : S40) : Kd.FK k40 W ok x [.string x.f0, .int .u64 x.f1.f0, .int .u64 x.f1.f1, .bool x.f2] := fun W2 _ => k40_mk W2 x
def rd_T40 (xs : List S40) (i : Int) : S40 := xs.getD i.toNat z40
theorem at_T40 {w : World} {A : Option Addr} {n : Nat} {xs : List S40} (h : Kd.C k40 w A n xs) (i : Int) (h0 : 0 ≤ i) (h1 : i < n) : ∃ ad , A = some ad ∧ w.cell? (ad.add (i.toNat * 4)) = some (.string (rd_T40 xs i).f0) ∧ w.cell? ⟨(ad.add (i.toNat * 4)).block, (ad.add (i.toNat * 4)).off + 1, none⟩ = some (.int .u64 (rd_T40 xs i).f1.f0) ∧ w.cell? ⟨(ad.add (i.toNat * 4)).block, (ad.add (i.toNat * 4)).off + 2, none⟩ = some (.int .u64 (rd_T40 xs i).f1.f1) ∧ w.cell? ⟨(ad.add (i.toNat * 4)).block, (ad.add (i.toNat * 4)).off + 3, none⟩ = some (.bool (rd_T40 xs i).f2) := by
  obtain ⟨ad, c, e, _, hK, hc0⟩ := Kd.C_get h z40 i h0 h1
  have hc : ∀ j u, c[j]? = some u → w.cell? (ad.add (i.toNat * 4 + j)) = some u := hc0
  obtain rfl := k40_open hK
  exact ⟨ad, e, hc 0 _ rfl, by rw [← add_field _ _ 1 (by omega)]; exact hc 1 _ rfl, by rw [← add_field _ _ 2 (by omega)]; exact hc 2 _ rfl, by rw [← add_field _ _ 3 (by omega)]; exact hc 3 _ rfl⟩

def rd_L5 (xs : List (List S40)) (i : Int) : (List S40) := xs.getD i.toNat ([] : List S40)
theorem at_L5 {w : World} {A : Option Addr} {n : Nat} {xs : List (List S40)} (h : Kd.C (Kd.slice 40 k40) w A n xs) (i : Int) (h0 : 0 ≤ i) (h1 : i < n) : ∃ ad A0 c0, A = some ad ∧ w.cell? (ad.add i.toNat) = some (.slice A0 (rd_L5 xs i).length c0) ∧ (rd_L5 xs i).length ≤ c0 ∧ k40.C w A0 (rd_L5 xs i).length (rd_L5 xs i) := by
  obtain ⟨ad, c, e, _, hK, hc0⟩ := Kd.C_get h ([] : List S40) i h0 h1
  have hc : ∀ j u, c[j]? = some u → w.cell? (ad.add (i.toNat * 1 + j)) = some u := hc0
  obtain ⟨A0, c0, rfl, l0, g0⟩ := hK
  exact ⟨ad, A0, c0, e, by have hq := hc 0 _ rfl; rwa [Nat.mul_one, Nat.add_zero] at hq, l0, g0⟩

def rd_L6 (xs : List (List S25)) (i : Int) : (List S25) := xs.getD i.toNat ([] : List S25)
theorem at_L6 {w : World} {A : Option Addr} {n : Nat} {xs : List (List S25)} (h : Kd.C (Kd.slice 25 k25) w A n xs) (i : Int) (h0 : 0 ≤ i) (h1 : i < n) : ∃ ad A0 c0, A = some ad ∧ w.cell? (ad.add i.toNat) = some (.slice A0 (rd_L6 xs i).length c0) ∧ (rd_L6 xs i).length ≤ c0 ∧ k25.C w A0 (rd_L6 xs i).length (rd_L6 xs i) := by
  obtain ⟨ad, c, e, _, hK, hc0⟩ := Kd.C_get h ([] : List S25) i h0 h1
  have hc : ∀ j u, c[j]? = some u → w.cell? (ad.add (i.toNat * 1 + j)) = some u := hc0
  obtain ⟨A0, c0, rfl, l0, g0⟩ := hK
  exact ⟨ad, A0, c0, e, by have hq := hc 0 _ rfl; rwa [Nat.mul_one, Nat.add_zero] at hq, l0, g0⟩

/-! #### struct type 27 -/
structure S27 where
  f0 : S25
  f1 : ByteArray
  f2 : Bool
def z27 : S27 := ⟨z25, (⟨#[]⟩ : ByteArray), false⟩
def k27 : Kd S27 := Kd.iso (Kd.pair k25 (Kd.pair Kd.string Kd.bool)) (fun x : S27 => (x.f0, x.f1, x.f2))
theorem k27_heap : Kd.Heap k27 := Kd.heap_iso _ (Kd.heap_pair k25_heap (Kd.heap_pair Kd.heap_string Kd.heap_bool))
theorem k27_open {w : World} {x : S27} {cs : List Value} (h : k27.K w x cs) : cs = [.int .u64 x.f0.f0, .int .u64 x.f0.f1, .string x.f1, .bool x.f2] := by
  obtain ⟨_, _, rfl, s0, ⟨_, _, rfl, rfl, rfl⟩⟩ := h
  obtain rfl := k25_open s0
  exact rfl
theorem k27_openM {w : World} {base : Nat} {ok : Nat → Prop} {x : S27} {cs : List Value} (h : k27.M w base ok x cs) : cs = [.int .u64 x.f0.f0, .int .u64 x.f0.f1, .string x.f1, .bool x.f2] := by
  obtain ⟨_, _, rfl, s0, ⟨_, _, rfl, rfl, rfl⟩⟩ := h
  obtain rfl := k25_openM s0
  exact rfl
theorem k27_mk (w : World) (x : S27)  : k27.K w x [.int .u64 x.f0.f0, .int .u64 x.f0.f1, .string x.f1, .bool x.f2] := ⟨[.int .u64 x.f0.f0, .int .u64 x.f0.f1], [.string x.f1, .bool x.f2], rfl, (k25_mk w x.f0 ), ⟨[.string x.f1], [.bool x.f2], rfl, rfl, rfl⟩⟩
theorem k27_mkM (w : World) (base : Nat) (ok : Nat → Prop) (x : S27)  : k27.M w base ok x [.int .u64 x.f0.f0, .int .u64 x.f0.f1, .string x.f1, .bool x.f2] := ⟨[.int .u64 x.f0.f0, .int .u64 x.f0.f1], [.string x.f1, .bool x.f2], rfl, (k25_mkM w base ok x.f0 ), ⟨[.string x.f1], [.bool x.f2], rfl, rfl, rfl⟩⟩
theorem k27_mkF (W : World) (ok : Nat → Prop) (x : S27) : Kd.FK k27 W ok x [.int .u64 x.f0.f0, .int .u64 x.f0.f1, .string x.f1, .bool x.f2] := fun W2 _ => k27_mk W2 x
def rd_T27 (xs : List S27) (i : Int) : S27 := xs.getD i.toNat z27
theorem at_T27 {w : World} {A : Option Addr} {n : Nat} {xs : List S27} (h : Kd.C k27 w A n xs) (i : Int) (h0 : 0 ≤ i) (h1 : i < n) : ∃ ad , A = some ad ∧ w.cell? (ad.add (i.toNat * 4)) = some (.int .u64 (rd_T27 xs i).f0.f0) ∧ w.cell? ⟨(ad.add (i.toNat * 4)).block, (ad.add (i.toNat * 4)).off + 1, none⟩ = some (.int .u64 (rd_T27 xs i).f0.f1) ∧ w.cell? ⟨(ad.add (i.toNat * 4)).block, (ad.add (i.toNat * 4)).off + 2, none⟩ = some (.string (rd_T27 xs i).f1) ∧ w.cell? ⟨(ad.add (i.toNat * 4)).block, (ad.add (i.toNat * 4)).off + 3, none⟩ = some (.bool (rd_T27 xs i).f2) := by
  obtain ⟨ad, c, e, _, hK, hc0⟩ := Kd.C_get h z27 i h0 h1
  have hc : ∀ j u, c[j]? = some u → w.cell? (ad.add (i.toNat * 4 + j)) = some u := hc0
  obtain rfl := k27_open hK
  exact ⟨ad, e, hc 0 _ rfl, by rw [← add_field _ _ 1 (by omega)]; exact hc 1 _ rfl, by rw [← add_field _ _ 2 (by omega)]; exact hc 2 _ rfl, by rw [← add_field _ _ 3 (by omega)]; exact hc 3 _ rfl⟩

end Go.Proofs.Ytgmflfbhifdacaa.Pr
