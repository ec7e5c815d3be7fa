/- What the program's functions compute, and that they compute it: printed out of the translation by a program of this session's (px.py, over the kit's printer). Conditions: none. -/
import Derived.Test.YtdlkpejlkijgcaaProg
import Derived.Below
import Derived.Deep.Draws
import Derived.Deep.AppendLies
import Derived.Maps.AppendAt
import Derived.OwnWalk
import Derived.Laws.BytesArg
import Derived.Laws.MakeOwn
import Derived.Laws.OwnMore
import Derived.Deep.OwnRows
import Derived.Tactics
import Derived.Lib.ConvBytes
import Derived.Laws.Slices
import Derived.WalkKit
import Derived.KernelRfl
import Derived.RowKit3
import Derived.Deep.LoopGhost
import Derived.Deep.QuietTactic
import Derived.BigQuiet
import Derived.WideLaws
import Derived.Deep.DeepCutAuto
import Derived.Deep.CutBlock
import Derived.Deep.RegionHeld3
import Derived.Laws.Rows
import Derived.Lib.AppendStr
import Derived.ArgAppend
import Derived.Laws.IdiomCopy
import Derived.OrdersHeld
import Derived.Laws.BitsLemmas
import Derived.RowKit
import Derived.Test.YtdlkpejlkijgcaaWWords
import Derived.Test.YtdlkpejlkijgcaaWLast
import Derived.Test.YtdlkpejlkijgcaaWTab
import Derived.Test.YtdlkpejlkijgcaaWFour
import Derived.Test.YtdlkpejlkijgcaaWQPut
import Derived.Test.YtdlkpejlkijgcaaWApart
import Derived.Test.YtdlkpejlkijgcaaWArr
import Derived.Test.YtdlkpejlkijgcaaWZeros
import Derived.Test.YtdlkpejlkijgcaaWFoot
import Derived.Test.YtdlkpejlkijgcaaWKept
import Derived.Test.YtdlkpejlkijgcaaWShare
import Derived.Test.YtdlkpejlkijgcaaWN
import Derived.Test.YtdlkpejlkijgcaaWFootNe
import Derived.Test.YtdlkpejlkijgcaaWAt
import Derived.Test.YtdlkpejlkijgcaaWEqStruct
import Derived.Test.YtdlkpejlkijgcaaWRepsOne
import Derived.Test.YtdlkpejlkijgcaaWInv
import Derived.Test.YtdlkpejlkijgcaaWInvWords
import Derived.Test.YtdlkpejlkijgcaaWGuard
import Derived.Test.YtdlkpejlkijgcaaWNEv
import Derived.Test.YtdlkpejlkijgcaaWMore
namespace Go.Proofs.Ytdlkpejlkijgcaa.Pr
open Go.RowKit Go.Proofs.YtdlkpejlkijgcaaW.PrintWords Go.Proofs.YtdlkpejlkijgcaaW.PrintLast Go.Proofs.YtdlkpejlkijgcaaW.PrintMore
attribute [local go_sem] max2_int min2_int max_two min_two max_three min_three max_four min_four   -- for this text's walks alone
set_option linter.unusedVariables false
set_option linter.unusedSimpArgs false



def errW : Option Int → Value
  | none => .nilIface
  | some c => .iface 0 (.int .i64 c)
theorem errW_none : errW none = .nilIface := rfl
theorem errW_some (c : Int) : errW (some c) = .iface 0 (.int .i64 c) := rfl

theorem info42 : (Try.prog.info? 42).map (fun i => (i.zero, i.size, i.bytes)) = some (some (.agg #[(.int .u64 0), (.int .u64 0), (.slice none 0 0), (.int .i64 0)]), 4, 48) := by kernel_rfl
-- the values' own types
/-! #### struct type 34 -/
structure S34 where
  f0 : Int
  f1 : Int
def z34 : S34 := ⟨(0 : Int), (0 : Int)⟩
def k34 : Kd S34 := Kd.iso (Kd.pair (Kd.int .u64) (Kd.int .u64)) (fun x : S34 => (x.f0, x.f1))
theorem k34_heap : Kd.Heap k34 := Kd.heap_iso _ (Kd.heap_pair (Kd.heap_int .u64) (Kd.heap_int .u64))
theorem k34_open {w : World} {x : S34} {cs : List Value} (h : k34.K w x cs) : cs = [.int .u64 x.f0, .int .u64 x.f1] := by
  obtain ⟨_, _, rfl, rfl, rfl⟩ := h
  exact rfl
theorem k34_openM {w : World} {base : Nat} {ok : Nat → Prop} {x : S34} {cs : List Value} (h : k34.M w base ok x cs) : cs = [.int .u64 x.f0, .int .u64 x.f1] := by
  obtain ⟨_, _, rfl, rfl, rfl⟩ := h
  exact rfl
theorem k34_mk (w : World) (x : S34)  : k34.K w x [.int .u64 x.f0, .int .u64 x.f1] := ⟨[.int .u64 x.f0], [.int .u64 x.f1], rfl, rfl, rfl⟩
theorem k34_mkM (w : World) (base : Nat) (ok : Nat → Prop) (x : S34)  : k34.M w base ok x [.int .u64 x.f0, .int .u64 x.f1] := ⟨[.int .u64 x.f0], [.int .u64 x.f1], rfl, rfl, rfl⟩
theorem k34_mkF (W : World) (ok : Nat → Prop) (x : S34) : Kd.FK k34 W ok x [.int .u64 x.f0, .int .u64 x.f1] := fun W2 _ => k34_mk W2 x
def rd_T34 (xs : List S34) (i : Int) : S34 := xs.getD i.toNat z34
theorem at_T34 {w : World} {A : Option Addr} {n : Nat} {xs : List S34} (h : Kd.C k34 w A n xs) (i : Int) (h0 : 0 ≤ i) (h1 : i < n) : ∃ ad , A = some ad ∧ w.cell? (ad.add (i.toNat * 2)) = some (.int .u64 (rd_T34 xs i).f0) ∧ w.cell? ⟨(ad.add (i.toNat * 2)).block, (ad.add (i.toNat * 2)).off + 1, none⟩ = some (.int .u64 (rd_T34 xs i).f1) := by
  obtain ⟨ad, c, e, _, hK, hc0⟩ := Kd.C_get h z34 i h0 h1
  have hc : ∀ j u, c[j]? = some u → w.cell? (ad.add (i.toNat * 2 + j)) = some u := hc0
  obtain rfl := k34_open hK
  exact ⟨ad, e, hc 0 _ rfl, by rw [← add_field _ _ 1 (by omega)]; exact hc 1 _ rfl⟩

def rd_L3 (xs : List (List Int)) (i : Int) : (List Int) := xs.getD i.toNat ([] : List Int)
theorem at_L3 {w : World} {A : Option Addr} {n : Nat} {xs : List (List Int)} (h : Kd.C (Kd.slice 28 (Kd.int .u64)) w A n xs) (i : Int) (h0 : 0 ≤ i) (h1 : i < n) : ∃ ad A0 c0, A = some ad ∧ w.cell? (ad.add i.toNat) = some (.slice A0 (rd_L3 xs i).length c0) ∧ (rd_L3 xs i).length ≤ c0 ∧ (Kd.int .u64).C w A0 (rd_L3 xs i).length (rd_L3 xs i) := by
  obtain ⟨ad, c, e, _, hK, hc0⟩ := Kd.C_get h ([] : List Int) i h0 h1
  have hc : ∀ j u, c[j]? = some u → w.cell? (ad.add (i.toNat * 1 + j)) = some u := hc0
  obtain ⟨A0, c0, rfl, l0, g0⟩ := hK
  exact ⟨ad, A0, c0, e, by have hq := hc 0 _ rfl; rwa [Nat.mul_one, Nat.add_zero] at hq, l0, g0⟩

/-! #### struct type 42 -/
structure S42 where
  f0 : S34
  f1 : (List Int)
  f2 : Int
def z42 : S42 := ⟨z34, ([] : List Int), (0 : Int)⟩
def k42 : Kd S42 := Kd.iso (Kd.pair k34 (Kd.pair (Kd.slice 28 (Kd.int .u64)) (Kd.int .i64))) (fun x : S42 => (x.f0, x.f1, x.f2))
theorem k42_heap : Kd.Heap k42 := Kd.heap_iso _ (Kd.heap_pair k34_heap (Kd.heap_pair (Kd.heap_slice 28 (Kd.heap_int .u64)) (Kd.heap_int .i64)))
theorem k42_open {w : World} {x : S42} {cs : List Value} (h : k42.K w x cs) : ∃ A2 c2, cs = [.int .u64 x.f0.f0, .int .u64 x.f0.f1, .slice A2 x.f1.length c2, .int .i64 x.f2] ∧ x.f1.length ≤ c2 ∧ (Kd.int .u64).C w A2 x.f1.length x.f1 := by
  obtain ⟨_, _, rfl, s0, ⟨_, _, rfl, ⟨A2, c2, rfl, l2, g2⟩, rfl⟩⟩ := h
  obtain rfl := k34_open s0
  exact ⟨A2, c2, rfl, l2, g2⟩
theorem k42_openM {w : World} {base : Nat} {ok : Nat → Prop} {x : S42} {cs : List Value} (h : k42.M w base ok x cs) : ∃ v2, cs = [.int .u64 x.f0.f0, .int .u64 x.f0.f1, v2, .int .i64 x.f2] ∧ (Kd.int .u64).R 28 w base ok v2 x.f1 := by
  obtain ⟨_, _, rfl, s0, ⟨_, _, rfl, ⟨v2, rfl, g2⟩, rfl⟩⟩ := h
  obtain rfl := k34_openM s0
  exact ⟨v2, rfl, g2⟩
theorem k42_mk (w : World) (x : S42) {A2 : Option Addr} {c2 : Nat} (l2 : x.f1.length ≤ c2) (g2 : (Kd.int .u64).C w A2 x.f1.length x.f1) : k42.K w x [.int .u64 x.f0.f0, .int .u64 x.f0.f1, .slice A2 x.f1.length c2, .int .i64 x.f2] := ⟨[.int .u64 x.f0.f0, .int .u64 x.f0.f1], [.slice A2 x.f1.length c2, .int .i64 x.f2], rfl, (k34_mk w x.f0 ), ⟨[.slice A2 x.f1.length c2], [.int .i64 x.f2], rfl, ⟨A2, c2, rfl, l2, g2⟩, rfl⟩⟩
theorem k42_mkM (w : World) (base : Nat) (ok : Nat → Prop) (x : S42) {v2 : Value} (g2 : (Kd.int .u64).R 28 w base ok v2 x.f1) : k42.M w base ok x [.int .u64 x.f0.f0, .int .u64 x.f0.f1, v2, .int .i64 x.f2] := ⟨[.int .u64 x.f0.f0, .int .u64 x.f0.f1], [v2, .int .i64 x.f2], rfl, (k34_mkM w base ok x.f0 ), ⟨[v2], [.int .i64 x.f2], rfl, ⟨v2, rfl, g2⟩, rfl⟩⟩
theorem k42_openF {W : World} {ok : Nat → Prop} {x : S42} {cs : List Value} (h : Kd.FK k42 W ok x cs) : ∃ A2 c2, cs = [.int .u64 x.f0.f0, .int .u64 x.f0.f1, .slice A2 x.f1.length c2, .int .i64 x.f2] ∧ x.f1.length ≤ c2 ∧ Kd.F (Kd.int .u64) W ok A2 x.f1.length x.f1 := by
  obtain ⟨A2, c2, rfl, l2, _⟩ := k42_open (Kd.FK_now h)
  exact ⟨A2, c2, rfl, l2, (fun W' hW => by obtain ⟨A2_, c2_, he, l2_, g2_⟩ := k42_open (h W' hW); injection (Option.some.inj (show some (Value.slice A2 x.f1.length c2) = some (Value.slice A2_ x.f1.length c2_) from congrArg (fun l => l[2]?) he)) with ha_ _ _; rw [ha_]; exact g2_)⟩
theorem k42_mkF (W : World) (ok : Nat → Prop) (x : S42) {A2 : Option Addr} {c2 : Nat} (l2 : x.f1.length ≤ c2) (g2 : Kd.F (Kd.int .u64) W ok A2 x.f1.length x.f1) : Kd.FK k42 W ok x [.int .u64 x.f0.f0, .int .u64 x.f0.f1, .slice A2 x.f1.length c2, .int .i64 x.f2] := fun W2 hW => k42_mk W2 x l2 (g2 W2 hW)
def rd_T42 (xs : List S42) (i : Int) : S42 := xs.getD i.toNat z42
theorem at_T42 {w : World} {A : Option Addr} {n : Nat} {xs : List S42} (h : Kd.C k42 w A n xs) (i : Int) (h0 : 0 ≤ i) (h1 : i < n) : ∃ ad A2 c2, A = some ad ∧ w.cell? (ad.add (i.toNat * 4)) = some (.int .u64 (rd_T42 xs i).f0.f0) ∧ w.cell? ⟨(ad.add (i.toNat * 4)).block, (ad.add (i.toNat * 4)).off + 1, none⟩ = some (.int .u64 (rd_T42 xs i).f0.f1) ∧ w.cell? ⟨(ad.add (i.toNat * 4)).block, (ad.add (i.toNat * 4)).off + 2, none⟩ = some (.slice A2 (rd_T42 xs i).f1.length c2) ∧ w.cell? ⟨(ad.add (i.toNat * 4)).block, (ad.add (i.toNat * 4)).off + 3, none⟩ = some (.int .i64 (rd_T42 xs i).f2) ∧ (rd_T42 xs i).f1.length ≤ c2 ∧ (Kd.int .u64).C w A2 (rd_T42 xs i).f1.length (rd_T42 xs i).f1 := by
  obtain ⟨ad, c, e, _, hK, hc0⟩ := Kd.C_get h z42 i h0 h1
  have hc : ∀ j u, c[j]? = some u → w.cell? (ad.add (i.toNat * 4 + j)) = some u := hc0
  obtain ⟨A2, c2, rfl, l2, g2⟩ := k42_open hK
  exact ⟨ad, A2, c2, e, hc 0 _ rfl, by rw [← add_field _ _ 1 (by omega)]; exact hc 1 _ rfl, by rw [← add_field _ _ 2 (by omega)]; exact hc 2 _ rfl, by rw [← add_field _ _ 3 (by omega)]; exact hc 3 _ rfl, l2, g2⟩

def rd_L6 (xs : List (List S42)) (i : Int) : (List S42) := xs.getD i.toNat ([] : List S42)
theorem at_L6 {w : World} {A : Option Addr} {n : Nat} {xs : List (List S42)} (h : Kd.C (Kd.slice 42 k42) w A n xs) (i : Int) (h0 : 0 ≤ i) (h1 : i < n) : ∃ ad A0 c0, A = some ad ∧ w.cell? (ad.add i.toNat) = some (.slice A0 (rd_L6 xs i).length c0) ∧ (rd_L6 xs i).length ≤ c0 ∧ k42.C w A0 (rd_L6 xs i).length (rd_L6 xs i) := by
  obtain ⟨ad, c, e, _, hK, hc0⟩ := Kd.C_get h ([] : List S42) i h0 h1
  have hc : ∀ j u, c[j]? = some u → w.cell? (ad.add (i.toNat * 1 + j)) = some u := hc0
  obtain ⟨A0, c0, rfl, l0, g0⟩ := hK
  exact ⟨ad, A0, c0, e, by have hq := hc 0 _ rfl; rwa [Nat.mul_one, Nat.add_zero] at hq, l0, g0⟩

/-! #### struct type 26 -/
structure S26 where
  f0 : (List S42)
def z26 : S26 := ⟨([] : List S42)⟩
def k26 : Kd S26 := Kd.iso (Kd.slice 42 k42) (fun x : S26 => x.f0)
theorem k26_heap : Kd.Heap k26 := Kd.heap_iso _ (Kd.heap_slice 42 k42_heap)
theorem k26_open {w : World} {x : S26} {cs : List Value} (h : k26.K w x cs) : ∃ A0 c0, cs = [.slice A0 x.f0.length c0] ∧ x.f0.length ≤ c0 ∧ k42.C w A0 x.f0.length x.f0 := by
  obtain ⟨A0, c0, rfl, l0, g0⟩ := h
  exact ⟨A0, c0, rfl, l0, g0⟩
theorem k26_openM {w : World} {base : Nat} {ok : Nat → Prop} {x : S26} {cs : List Value} (h : k26.M w base ok x cs) : ∃ v0, cs = [v0] ∧ k42.R 42 w base ok v0 x.f0 := by
  obtain ⟨v0, rfl, g0⟩ := h
  exact ⟨v0, rfl, g0⟩
theorem k26_mk (w : World) (x : S26) {A0 : Option Addr} {c0 : Nat} (l0 : x.f0.length ≤ c0) (g0 : k42.C w A0 x.f0.length x.f0) : k26.K w x [.slice A0 x.f0.length c0] := ⟨A0, c0, rfl, l0, g0⟩
theorem k26_mkM (w : World) (base : Nat) (ok : Nat → Prop) (x : S26) {v0 : Value} (g0 : k42.R 42 w base ok v0 x.f0) : k26.M w base ok x [v0] := ⟨v0, rfl, g0⟩
theorem k26_openF {W : World} {ok : Nat → Prop} {x : S26} {cs : List Value} (h : Kd.FK k26 W ok x cs) : ∃ A0 c0, cs = [.slice A0 x.f0.length c0] ∧ x.f0.length ≤ c0 ∧ Kd.F k42 W ok A0 x.f0.length x.f0 := by
  obtain ⟨A0, c0, rfl, l0, _⟩ := k26_open (Kd.FK_now h)
  exact ⟨A0, c0, rfl, l0, (fun W' hW => by obtain ⟨A0_, c0_, he, l0_, g0_⟩ := k26_open (h W' hW); injection (Option.some.inj (show some (Value.slice A0 x.f0.length c0) = some (Value.slice A0_ x.f0.length c0_) from congrArg (fun l => l[0]?) he)) with ha_ _ _; rw [ha_]; exact g0_)⟩
theorem k26_mkF (W : World) (ok : Nat → Prop) (x : S26) {A0 : Option Addr} {c0 : Nat} (l0 : x.f0.length ≤ c0) (g0 : Kd.F k42 W ok A0 x.f0.length x.f0) : Kd.FK k26 W ok x [.slice A0 x.f0.length c0] := fun W2 hW => k26_mk W2 x l0 (g0 W2 hW)
def rd_T26 (xs : List S26) (i : Int) : S26 := xs.getD i.toNat z26
theorem at_T26 {w : World} {A : Option Addr} {n : Nat} {xs : List S26} (h : Kd.C k26 w A n xs) (i : Int) (h0 : 0 ≤ i) (h1 : i < n) : ∃ ad A0 c0, A = some ad ∧ w.cell? (ad.add i.toNat) = some (.slice A0 (rd_T26 xs i).f0.length c0) ∧ (rd_T26 xs i).f0.length ≤ c0 ∧ k42.C w A0 (rd_T26 xs i).f0.length (rd_T26 xs i).f0 := by
  obtain ⟨ad, c, e, _, hK, hc0⟩ := Kd.C_get h z26 i h0 h1
  have hc : ∀ j u, c[j]? = some u → w.cell? (ad.add (i.toNat * 1 + j)) = some u := hc0
  obtain ⟨A0, c0, rfl, l0, g0⟩ := k26_open hK
  exact ⟨ad, A0, c0, e, by have hq := hc 0 _ rfl; rwa [Nat.mul_one, Nat.add_zero] at hq, l0, g0⟩

/-! #### struct type 86 -/
structure S86 where
  f0 : ByteArray
  f1 : ByteArray
  f2 : Bool
def z86 : S86 := ⟨(⟨#[]⟩ : ByteArray), (⟨#[]⟩ : ByteArray), false⟩
def k86 : Kd S86 := Kd.iso (Kd.pair Kd.string (Kd.pair Kd.string Kd.bool)) (fun x : S86 => (x.f0, x.f1, x.f2))
theorem k86_heap : Kd.Heap k86 := Kd.heap_iso _ (Kd.heap_pair Kd.heap_string (Kd.heap_pair Kd.heap_string Kd.heap_bool))
theorem k86_open {w : World} {x : S86} {cs : List Value} (h : k86.K w x cs) : cs = [.string x.f0, .string x.f1, .bool x.f2] := by
  obtain ⟨_, _, rfl, rfl, ⟨_, _, rfl, rfl, rfl⟩⟩ := h
  exact rfl
theorem k86_openM {w : World} {base : Nat} {ok : Nat → Prop} {x : S86} {cs : List Value} (h : k86.M w base ok x cs) : cs = [.string x.f0, .string x.f1, .bool x.f2] := by
  obtain ⟨_, _, rfl, rfl, ⟨_, _, rfl, rfl, rfl⟩⟩ := h
  exact rfl
theorem k86_mk (w : World) (x : S86)  : k86.K w x [.string x.f0, .string x.f1, .bool x.f2] := ⟨[.string x.f0], [.string x.f1, .bool x.f2], rfl, rfl, ⟨[.string x.f1], [.bool x.f2], rfl, rfl, rfl⟩⟩
theorem k86_mkM (w : World) (base : Nat) (ok : Nat → Prop) (x : S86)  : k86.M w base ok x [.string x.f0, .string x.f1, .bool x.f2] := ⟨[.string x.f0], [.string x.f1, .bool x.f2], rfl, rfl, ⟨[.string x.f1], [.bool x.f2], rfl, rfl, rfl⟩⟩
theorem k86_mkF (W : World) (ok : Nat → Prop) (x : S86) : Kd.FK k86 W ok x [.string x.f0, .string x.f1, .bool x.f2] := fun W2 _ => k86_mk W2 x
def rd_T86 (xs : List S86) (i : Int) : S86 := xs.getD i.toNat z86
theorem at_T86 {w : World} {A : Option Addr} {n : Nat} {xs : List S86} (h : Kd.C k86 w A n xs) (i : Int) (h0 : 0 ≤ i) (h1 : i < n) : ∃ ad , A = some ad ∧ w.cell? (ad.add (i.toNat * 3)) = some (.string (rd_T86 xs i).f0) ∧ w.cell? ⟨(ad.add (i.toNat * 3)).block, (ad.add (i.toNat * 3)).off + 1, none⟩ = some (.string (rd_T86 xs i).f1) ∧ w.cell? ⟨(ad.add (i.toNat * 3)).block, (ad.add (i.toNat * 3)).off + 2, none⟩ = some (.bool (rd_T86 xs i).f2) := by
  obtain ⟨ad, c, e, _, hK, hc0⟩ := Kd.C_get h z86 i h0 h1
  have hc : ∀ j u, c[j]? = some u → w.cell? (ad.add (i.toNat * 3 + j)) = some u := hc0
  obtain rfl := k86_open hK
  exact ⟨ad, e, hc 0 _ rfl, by rw [← add_field _ _ 1 (by omega)]; exact hc 1 _ rfl, by rw [← add_field _ _ 2 (by omega)]; exact hc 2 _ rfl⟩

def rd_L10 (xs : List (List S86)) (i : Int) : (List S86) := xs.getD i.toNat ([] : List S86)
theorem at_L10 {w : World} {A : Option Addr} {n : Nat} {xs : List (List S86)} (h : Kd.C (Kd.slice 86 k86) w A n xs) (i : Int) (h0 : 0 ≤ i) (h1 : i < n) : ∃ ad A0 c0, A = some ad ∧ w.cell? (ad.add i.toNat) = some (.slice A0 (rd_L10 xs i).length c0) ∧ (rd_L10 xs i).length ≤ c0 ∧ k86.C w A0 (rd_L10 xs i).length (rd_L10 xs i) := by
  obtain ⟨ad, c, e, _, hK, hc0⟩ := Kd.C_get h ([] : List S86) i h0 h1
  have hc : ∀ j u, c[j]? = some u → w.cell? (ad.add (i.toNat * 1 + j)) = some u := hc0
  obtain ⟨A0, c0, rfl, l0, g0⟩ := hK
  exact ⟨ad, A0, c0, e, by have hq := hc 0 _ rfl; rwa [Nat.mul_one, Nat.add_zero] at hq, l0, g0⟩

/-! #### struct type 38 -/
structure S38 where
  f0 : Int
  f1 : S34
  f2 : ByteArray
  f3 : (List S86)
  f4 : Bool
  f5 : (List Int)
def z38 : S38 := ⟨(0 : Int), z34, (⟨#[]⟩ : ByteArray), ([] : List S86), false, ([] : List Int)⟩
def k38 : Kd S38 := Kd.iso (Kd.pair (Kd.int .i64) (Kd.pair k34 (Kd.pair Kd.string (Kd.pair (Kd.slice 86 k86) (Kd.pair Kd.bool (Kd.slice 28 (Kd.int .u64))))))) (fun x : S38 => (x.f0, x.f1, x.f2, x.f3, x.f4, x.f5))
theorem k38_heap : Kd.Heap k38 := Kd.heap_iso _ (Kd.heap_pair (Kd.heap_int .i64) (Kd.heap_pair k34_heap (Kd.heap_pair Kd.heap_string (Kd.heap_pair (Kd.heap_slice 86 k86_heap) (Kd.heap_pair Kd.heap_bool (Kd.heap_slice 28 (Kd.heap_int .u64)))))))
theorem k38_open {w : World} {x : S38} {cs : List Value} (h : k38.K w x cs) : ∃ A4 c4 A6 c6, cs = [.int .i64 x.f0, .int .u64 x.f1.f0, .int .u64 x.f1.f1, .string x.f2, .slice A4 x.f3.length c4, .bool x.f4, .slice A6 x.f5.length c6] ∧ x.f3.length ≤ c4 ∧ k86.C w A4 x.f3.length x.f3 ∧ x.f5.length ≤ c6 ∧ (Kd.int .u64).C w A6 x.f5.length x.f5 := by
  obtain ⟨_, _, rfl, rfl, ⟨_, _, rfl, s1, ⟨_, _, rfl, rfl, ⟨_, _, rfl, ⟨A4, c4, rfl, l4, g4⟩, ⟨_, _, rfl, rfl, ⟨A6, c6, rfl, l6, g6⟩⟩⟩⟩⟩⟩ := h
  obtain rfl := k34_open s1
  exact ⟨A4, c4, A6, c6, rfl, l4, g4, l6, g6⟩
theorem k38_openM {w : World} {base : Nat} {ok : Nat → Prop} {x : S38} {cs : List Value} (h : k38.M w base ok x cs) : ∃ v4 v6, cs = [.int .i64 x.f0, .int .u64 x.f1.f0, .int .u64 x.f1.f1, .string x.f2, v4, .bool x.f4, v6] ∧ k86.R 86 w base ok v4 x.f3 ∧ (Kd.int .u64).R 28 w base ok v6 x.f5 := by
  obtain ⟨_, _, rfl, rfl, ⟨_, _, rfl, s1, ⟨_, _, rfl, rfl, ⟨_, _, rfl, ⟨v4, rfl, g4⟩, ⟨_, _, rfl, rfl, ⟨v6, rfl, g6⟩⟩⟩⟩⟩⟩ := h
  obtain rfl := k34_openM s1
  exact ⟨v4, v6, rfl, g4, g6⟩
theorem k38_mk (w : World) (x : S38) {A4 : Option Addr} {c4 : Nat} (l4 : x.f3.length ≤ c4) (g4 : k86.C w A4 x.f3.length x.f3) {A6 : Option Addr} {c6 : Nat} (l6 : x.f5.length ≤ c6) (g6 : (Kd.int .u64).C w A6 x.f5.length x.f5) : k38.K w x [.int .i64 x.f0, .int .u64 x.f1.f0, .int .u64 x.f1.f1, .string x.f2, .slice A4 x.f3.length c4, .bool x.f4, .slice A6 x.f5.length c6] := ⟨[.int .i64 x.f0], [.int .u64 x.f1.f0, .int .u64 x.f1.f1, .string x.f2, .slice A4 x.f3.length c4, .bool x.f4, .slice A6 x.f5.length c6], rfl, rfl, ⟨[.int .u64 x.f1.f0, .int .u64 x.f1.f1], [.string x.f2, .slice A4 x.f3.length c4, .bool x.f4, .slice A6 x.f5.length c6], rfl, (k34_mk w x.f1 ), ⟨[.string x.f2], [.slice A4 x.f3.length c4, .bool x.f4, .slice A6 x.f5.length c6], rfl, rfl, ⟨[.slice A4 x.f3.length c4], [.bool x.f4, .slice A6 x.f5.length c6], rfl, ⟨A4, c4, rfl, l4, g4⟩, ⟨[.bool x.f4], [.slice A6 x.f5.length c6], rfl, rfl, ⟨A6, c6, rfl, l6, g6⟩⟩⟩⟩⟩⟩
theorem k38_mkM (w : World) (base : Nat) (ok : Nat → Prop) (x : S38) {v4 : Value} (g4 : k86.R 86 w base ok v4 x.f3) {v6 : Value} (g6 : (Kd.int .u64).R 28 w base ok v6 x.f5) : k38.M w base ok x [.int .i64 x.f0, .int .u64 x.f1.f0, .int .u64 x.f1.f1, .string x.f2, v4, .bool x.f4, v6] := ⟨[.int .i64 x.f0], [.int .u64 x.f1.f0, .int .u64 x.f1.f1, .string x.f2, v4, .bool x.f4, v6], rfl, rfl, ⟨[.int .u64 x.f1.f0, .int .u64 x.f1.f1], [.string x.f2, v4, .bool x.f4, v6], rfl, (k34_mkM w base ok x.f1 ), ⟨[.string x.f2], [v4, .bool x.f4, v6], rfl, rfl, ⟨[v4], [.bool x.f4, v6], rfl, ⟨v4, rfl, g4⟩, ⟨[.bool x.f4], [v6], rfl, rfl, ⟨v6, rfl, g6⟩⟩⟩⟩⟩⟩
theorem k38_openF {W : World} {ok : Nat → Prop} {x : S38} {cs : List Value} (h : Kd.FK k38 W ok x cs) : ∃ A4 c4 A6 c6, cs = [.int .i64 x.f0, .int .u64 x.f1.f0, .int .u64 x.f1.f1, .string x.f2, .slice A4 x.f3.length c4, .bool x.f4, .slice A6 x.f5.length c6] ∧ x.f3.length ≤ c4 ∧ Kd.F k86 W ok A4 x.f3.length x.f3 ∧ x.f5.length ≤ c6 ∧ Kd.F (Kd.int .u64) W ok A6 x.f5.length x.f5 := by
  obtain ⟨A4, c4, A6, c6, rfl, l4, _, l6, _⟩ := k38_open (Kd.FK_now h)
  exact ⟨A4, c4, A6, c6, rfl, l4, (fun W' hW => by obtain ⟨A4_, c4_, A6_, c6_, he, l4_, g4_, l6_, g6_⟩ := k38_open (h W' hW); injection (Option.some.inj (show some (Value.slice A4 x.f3.length c4) = some (Value.slice A4_ x.f3.length c4_) from congrArg (fun l => l[4]?) he)) with ha_ _ _; rw [ha_]; exact g4_), l6, (fun W' hW => by obtain ⟨A4_, c4_, A6_, c6_, he, l4_, g4_, l6_, g6_⟩ := k38_open (h W' hW); injection (Option.some.inj (show some (Value.slice A6 x.f5.length c6) = some (Value.slice A6_ x.f5.length c6_) from congrArg (fun l => l[6]?) he)) with ha_ _ _; rw [ha_]; exact g6_)⟩
theorem k38_mkF (W : World) (ok : Nat → Prop) (x : S38) {A4 : Option Addr} {c4 : Nat} (l4 : x.f3.length ≤ c4) (g4 : Kd.F k86 W ok A4 x.f3.length x.f3) {A6 : Option Addr} {c6 : Nat} (l6 : x.f5.length ≤ c6) (g6 : Kd.F (Kd.int .u64) W ok A6 x.f5.length x.f5) : Kd.FK k38 W ok x [.int .i64 x.f0, .int .u64 x.f1.f0, .int .u64 x.f1.f1, .string x.f2, .slice A4 x.f3.length c4, .bool x.f4, .slice A6 x.f5.length c6] := fun W2 hW => k38_mk W2 x l4 (g4 W2 hW) l6 (g6 W2 hW)
def rd_T38 (xs : List S38) (i : Int) : S38 := xs.getD i.toNat z38
theorem at_T38 {w : World} {A : Option Addr} {n : Nat} {xs : List S38} (h : Kd.C k38 w A n xs) (i : Int) (h0 : 0 ≤ i) (h1 : i < n) : ∃ ad A4 c4 A6 c6, A = some ad ∧ w.cell? (ad.add (i.toNat * 7)) = some (.int .i64 (rd_T38 xs i).f0) ∧ w.cell? ⟨(ad.add (i.toNat * 7)).block, (ad.add (i.toNat * 7)).off + 1, none⟩ = some (.int .u64 (rd_T38 xs i).f1.f0) ∧ w.cell? ⟨(ad.add (i.toNat * 7)).block, (ad.add (i.toNat * 7)).off + 2, none⟩ = some (.int .u64 (rd_T38 xs i).f1.f1) ∧ w.cell? ⟨(ad.add (i.toNat * 7)).block, (ad.add (i.toNat * 7)).off + 3, none⟩ = some (.string (rd_T38 xs i).f2) ∧ w.cell? ⟨(ad.add (i.toNat * 7)).block, (ad.add (i.toNat * 7)).off + 4, none⟩ = some (.slice A4 (rd_T38 xs i).f3.length c4) ∧ w.cell? ⟨(ad.add (i.toNat * 7)).block, (ad.add (i.toNat * 7)).off + 5, none⟩ = some (.bool (rd_T38 xs i).f4) ∧ w.cell? ⟨(ad.add (i.toNat * 7)).block, (ad.add (i.toNat * 7)).off + 6, none⟩ = some (.slice A6 (rd_T38 xs i).f5.length c6) ∧ (rd_T38 xs i).f3.length ≤ c4 ∧ k86.C w A4 (rd_T38 xs i).f3.length (rd_T38 xs i).f3 ∧ (rd_T38 xs i).f5.length ≤ c6 ∧ (Kd.int .u64).C w A6 (rd_T38 xs i).f5.length (rd_T38 xs i).f5 := by
  obtain ⟨ad, c, e, _, hK, hc0⟩ := Kd.C_get h z38 i h0 h1
  have hc : ∀ j u, c[j]? = some u → w.cell? (ad.add (i.toNat * 7 + j)) = some u := hc0
  obtain ⟨A4, c4, A6, c6, rfl, l4, g4, l6, g6⟩ := k38_open hK
  exact ⟨ad, A4, c4, A6, c6, e, hc 0 _ rfl, by rw [← add_field _ _ 1 (by omega)]; exact hc 1 _ rfl, by rw [← add_field _ _ 2 (by omega)]; exact hc 2 _ rfl, by rw [← add_field _ _ 3 (by omega)]; exact hc 3 _ rfl, by rw [← add_field _ _ 4 (by omega)]; exact hc 4 _ rfl, by rw [← add_field _ _ 5 (by omega)]; exact hc 5 _ rfl, by rw [← add_field _ _ 6 (by omega)]; exact hc 6 _ rfl, l4, g4, l6, g6⟩

/-! #### struct type 30 -/
structure S30 where
  f0 : Int
  f1 : ByteArray
  f2 : Int
  f3 : Bool
  f4 : Bool
def z30 : S30 := ⟨(0 : Int), (⟨#[]⟩ : ByteArray), (0 : Int), false, false⟩
def k30 : Kd S30 := Kd.iso (Kd.pair (Kd.int .i64) (Kd.pair Kd.string (Kd.pair (Kd.int .u64) (Kd.pair Kd.bool Kd.bool)))) (fun x : S30 => (x.f0, x.f1, x.f2, x.f3, x.f4))
theorem k30_heap : Kd.Heap k30 := Kd.heap_iso _ (Kd.heap_pair (Kd.heap_int .i64) (Kd.heap_pair Kd.heap_string (Kd.heap_pair (Kd.heap_int .u64) (Kd.heap_pair Kd.heap_bool Kd.heap_bool))))
theorem k30_open {w : World} {x : S30} {cs : List Value} (h : k30.K w x cs) : cs = [.int .i64 x.f0, .string x.f1, .int .u64 x.f2, .bool x.f3, .bool x.f4] := by
  obtain ⟨_, _, rfl, rfl, ⟨_, _, rfl, rfl, ⟨_, _, rfl, rfl, ⟨_, _, rfl, rfl, rfl⟩⟩⟩⟩ := h
  exact rfl
theorem k30_openM {w : World} {base : Nat} {ok : Nat → Prop} {x : S30} {cs : List Value} (h : k30.M w base ok x cs) : cs = [.int .i64 x.f0, .string x.f1, .int .u64 x.f2, .bool x.f3, .bool x.f4] := by
  obtain ⟨_, _, rfl, rfl, ⟨_, _, rfl, rfl, ⟨_, _, rfl, rfl, ⟨_, _, rfl, rfl, rfl⟩⟩⟩⟩ := h
  exact rfl
theorem k30_mk (w : World) (x : S30)  : k30.K w x [.int .i64 x.f0, .string x.f1, .int .u64 x.f2, .bool x.f3, .bool x.f4] := ⟨[.int .i64 x.f0], [.string x.f1, .int .u64 x.f2, .bool x.f3, .bool x.f4], rfl, rfl, ⟨[.string x.f1], [.int .u64 x.f2, .bool x.f3, .bool x.f4], rfl, rfl, ⟨[.int .u64 x.f2], [.bool x.f3, .bool x.f4], rfl, rfl, ⟨[.bool x.f3], [.bool x.f4], rfl, rfl, rfl⟩⟩⟩⟩
theorem k30_mkM (w : World) (base : Nat) (ok : Nat → Prop) (x : S30)  : k30.M w base ok x [.int .i64 x.f0, .string x.f1, .int .u64 x.f2, .bool x.f3, .bool x.f4] := ⟨[.int .i64 x.f0], [.string x.f1, .int .u64 x.f2, .bool x.f3, .bool x.f4], rfl, rfl, ⟨[.string x.f1], [.int .u64 x.f2, .bool x.f3, .bool x.f4], rfl, rfl, ⟨[.int .u64 x.f2], [.bool x.f3, .bool x.f4], rfl, rfl, ⟨[.bool x.f3], [.bool x.f4], rfl, rfl, rfl⟩⟩⟩⟩
theorem k30_mkF (W : World) (ok : Nat → Prop) (x : S30) : Kd.FK k30 W ok x [.int .i64 x.f0, .string x.f1, .int .u64 x.f2, .bool x.f3, .bool x.f4] := fun W2 _ => k30_mk W2 x
def rd_T30 (xs : List S30) (i : Int) : S30 := xs.getD i.toNat z30
theorem at_T30 {w : World} {A : Option Addr} {n : Nat} {xs : List S30} (h : Kd.C k30 w A n xs) (i : Int) (h0 : 0 ≤ i) (h1 : i < n) : ∃ ad , A = some ad ∧ w.cell? (ad.add (i.toNat * 5)) = some (.int .i64 (rd_T30 xs i).f0) ∧ w.cell? ⟨(ad.add (i.toNat * 5)).block, (ad.add (i.toNat * 5)).off + 1, none⟩ = some (.string (rd_T30 xs i).f1) ∧ w.cell? ⟨(ad.add (i.toNat * 5)).block, (ad.add (i.toNat * 5)).off + 2, none⟩ = some (.int .u64 (rd_T30 xs i).f2) ∧ w.cell? ⟨(ad.add (i.toNat * 5)).block, (ad.add (i.toNat * 5)).off + 3, none⟩ = some (.bool (rd_T30 xs i).f3) ∧ w.cell? ⟨(ad.add (i.toNat * 5)).block, (ad.add (i.toNat * 5)).off + 4, none⟩ = some (.bool (rd_T30 xs i).f4) := by
  obtain ⟨ad, c, e, _, hK, hc0⟩ := Kd.C_get h z30 i h0 h1
  have hc : ∀ j u, c[j]? = some u → w.cell? (ad.add (i.toNat * 5 + j)) = some u := hc0
  obtain rfl := k30_open hK
  exact ⟨ad, e, hc 0 _ rfl, by rw [← add_field _ _ 1 (by omega)]; exact hc 1 _ rfl, by rw [← add_field _ _ 2 (by omega)]; exact hc 2 _ rfl, by rw [← add_field _ _ 3 (by omega)]; exact hc 3 _ rfl, by rw [← add_field _ _ 4 (by omega)]; exact hc 4 _ rfl⟩

def rd_L13 (xs : List (List S38)) (i : Int) : (List S38) := xs.getD i.toNat ([] : List S38)
theorem at_L13 {w : World} {A : Option Addr} {n : Nat} {xs : List (List S38)} (h : Kd.C (Kd.slice 38 k38) w A n xs) (i : Int) (h0 : 0 ≤ i) (h1 : i < n) : ∃ ad A0 c0, A = some ad ∧ w.cell? (ad.add i.toNat) = some (.slice A0 (rd_L13 xs i).length c0) ∧ (rd_L13 xs i).length ≤ c0 ∧ k38.C w A0 (rd_L13 xs i).length (rd_L13 xs i) := by
  obtain ⟨ad, c, e, _, hK, hc0⟩ := Kd.C_get h ([] : List S38) i h0 h1
  have hc : ∀ j u, c[j]? = some u → w.cell? (ad.add (i.toNat * 1 + j)) = some u := hc0
  obtain ⟨A0, c0, rfl, l0, g0⟩ := hK
  exact ⟨ad, A0, c0, e, by have hq := hc 0 _ rfl; rwa [Nat.mul_one, Nat.add_zero] at hq, l0, g0⟩

end Go.Proofs.Ytdlkpejlkijgcaa.Pr
