/- pack.Num: what it computes, and that it does. Conditions: none. -/
import Derived.Test.YtfjhlcbpogihmaaKNoteBack4
import Derived.Deep.RegionWith
import Derived.Laws.CopyOwn
namespace Go.Proofs.Ytfjhlcbpogihmaa.Pr
open Go.RowKit Go.Proofs.YtfjhlcbpogihmaaW.PrintWords Go.Proofs.YtfjhlcbpogihmaaW.PrintLast Go.Proofs.YtfjhlcbpogihmaaW.PrintMore
open Go.Proofs.Ytfjhlcbpogihmaa.Hnd
attribute [local go_sem] setCell_drewN_ alloc_drewN_
set_option linter.unusedVariables false
set_option linter.unusedSimpArgs false
theorem heap_at2 (w : World) (a b : Obj) : ((w.alloc a).alloc b).drew.heap[w.heap.size + 1]? = some b := by
  have h := blk_new (w.alloc a) b
  rw [World.size_alloc] at h
  exact h
theorem prefix_get {α : Type} {cs rest : List α} {j : Nat} {x : α} (h : cs[j]? = some x) : (cs ++ rest)[j]? = some x := by rw [List.getElem?_append_left (List.getElem?_eq_some_iff.1 h).1]; exact h
theorem sizeI_1 {v : Int} (h0 : 0 ≤ v) (h1 : v < 64) : sizeI v = 1 := by
  unfold sizeI
  rw [if_pos (by omega)]
theorem sizeI_2 {v : Int} (h0 : 64 ≤ v) (h1 : v < 16384) : sizeI v = 2 := by
  unfold sizeI
  rw [if_neg (by omega)]; rw [if_pos (by omega)]
theorem sizeI_4 {v : Int} (h0 : 16384 ≤ v) (h1 : v < 1073741824) : sizeI v = 4 := by
  unfold sizeI
  rw [if_neg (by omega)]; rw [if_neg (by omega)]; rw [if_pos (by omega)]
theorem sizeI_8 {v : Int} (h0 : 1073741824 ≤ v) (h1 : v < 4611686018427387904) : sizeI v = 8 := by
  unfold sizeI
  rw [if_neg (by omega)]; rw [if_neg (by omega)]; rw [if_neg (by omega)]; rw [if_pos (by omega)]
theorem sizeI_0 {v : Int} (h0 : 4611686018427387904 ≤ v) : sizeI v = 0 := by
  unfold sizeI
  rw [if_neg (by omega)]; rw [if_neg (by omega)]; rw [if_neg (by omega)]; rw [if_neg (by omega)]
/-- The bytes of a number of 1. -/
def num1 (v : Int) : List Int := [Go.bits .or .u8 (v) 0]
set_option maxHeartbeats 8000000 in
set_option maxRecDepth 100000 in
theorem num1_calls (v : Int) (w : World) (h0 : 0 ≤ v) (h1 : v < 64) :
    Calls Try.prog 58 #[.int .u64 v] w fun e w' => e = .returned (.tuple #[.string (strOfNums (num1 v)), .int .i64 0]) ∧ Below w.heap.size w w' := by
  have HS := fun W => Aside0.mk (sizeI_1 h0 h1 ▸ pack_Size.calls0 v ⟨by omega, by omega⟩ W)
  have hmk : ∀ W : World, (Instr.makeSlice 81 (.int .i64 1) (.int .i64 1)).run Try.prog W = .ok (.slice (some ⟨W.heap.size, 0, none⟩) 1 1) (W.alloc (.cells #[.int .u8 0] 5)) := fun _ => by kernel_rfl
  have HN := Aside0.mk (show num1 v = [Go.bits .or .u8 (v) 0] from rfl)
  go_enter Try.func58, Try.ntmps58
  go_wp2_with (go_at_call 53; refine (HS _).out.mono ?_; rintro e w' ⟨rfl, rfl⟩)
  refine wp_loop_rounds 2 ?_
  iterate 2 (rw [rounds_succ]; go_wp2)
  go_region_with (go_at_call 86; refine (tz_1 _).mono ?_; rintro e w2 ⟨rfl, rfl⟩)
  all_goals
    go_wp2_with (with_reducible refine wpList_copy_splice rfl (.tmp 38) (.tmp 40) 81 81 rfl 5 Try.underlying81 (by kernel_rfl) (some ⟨w.heap.size + 1, 0, none⟩) (some ⟨w.heap.size, 0, none⟩) 1 1 1 8 rfl rfl (w.heap.size + 1) 0 [(.int .u8 0 : Value)] 5 ?_ [(.int .u8 (Go.bits .or .u8 (v) 0) : Value)] rfl ?_ (by simp) ?_ w.heap.size w ?_ (Nat.le_succ _) ?_)
    any_goals (first | (with_reducible exact heap_at2 w _ _) | exact (((Below.refl _ w).alloc (Nat.le_refl _) _).alloc (by simp) _).drew | exact fun j x hj => prefix_get (rest := [(.int .u8 0 : Value), (.int .u8 0 : Value), (.int .u8 0 : Value), (.int .u8 0 : Value), (.int .u8 0 : Value), (.int .u8 0 : Value), (.int .u8 0 : Value)]) hj | (simp [Value.oneCell']; done))
    intro w3 HG HB
    have HO : w3.ownsRow 0 5 1 (.slice (some ⟨w.heap.size + 1, 0, none⟩) 1 1) 1 (nums .u8 [Go.bits .or .u8 (v) 0]) := ⟨rfl, .inr ⟨_, 1, _, rfl, Nat.zero_le _, HG.out, Nat.le_refl _, by decide, rfl, rfl⟩⟩
    have hcv := own_string (src := 81) (dst := 9) Try.underlying81 Try.underlying5 Try.underlying9 HO
    clear HO HG
    have HB1 := Aside0.mk HB
    clear HB
    go_wp2
    go_ret2
    exact ⟨by rw [HN.out]; rfl, HB1.out⟩
/-- The bytes of a number of 2. -/
def num2 (v : Int) : List Int := [Go.bits .or .u8 (v / 256) 64, v % 256]
set_option maxHeartbeats 8000000 in
set_option maxRecDepth 100000 in
theorem num2_calls (v : Int) (w : World) (h0 : 64 ≤ v) (h1 : v < 16384) :
    Calls Try.prog 58 #[.int .u64 v] w fun e w' => e = .returned (.tuple #[.string (strOfNums (num2 v)), .int .i64 0]) ∧ Below w.heap.size w w' := by
  have HS := fun W => Aside0.mk (sizeI_2 h0 h1 ▸ pack_Size.calls0 v ⟨by omega, by omega⟩ W)
  have hmk : ∀ W : World, (Instr.makeSlice 81 (.int .i64 2) (.int .i64 2)).run Try.prog W = .ok (.slice (some ⟨W.heap.size, 0, none⟩) 2 2) (W.alloc (.cells #[.int .u8 0, .int .u8 0] 5)) := fun _ => by kernel_rfl
  have HN := Aside0.mk (show num2 v = [Go.bits .or .u8 (v / 256) 64, v % 256] from rfl)
  go_enter Try.func58, Try.ntmps58
  go_wp2_with (go_at_call 53; refine (HS _).out.mono ?_; rintro e w' ⟨rfl, rfl⟩)
  refine wp_loop_rounds 3 ?_
  iterate 3 (rw [rounds_succ]; go_wp2)
  go_region_with (go_at_call 86; refine (tz_2 _).mono ?_; rintro e w2 ⟨rfl, rfl⟩)
  all_goals
    go_wp2_with (with_reducible refine wpList_copy_splice rfl (.tmp 38) (.tmp 40) 81 81 rfl 5 Try.underlying81 (by kernel_rfl) (some ⟨w.heap.size + 1, 0, none⟩) (some ⟨w.heap.size, 0, none⟩) 2 2 2 8 rfl rfl (w.heap.size + 1) 0 [(.int .u8 0 : Value), (.int .u8 0 : Value)] 5 ?_ [(.int .u8 (Go.bits .or .u8 (v / 256) 64) : Value), (.int .u8 (v % 256) : Value)] rfl ?_ (by simp) ?_ w.heap.size w ?_ (Nat.le_succ _) ?_)
    any_goals (first | (with_reducible exact heap_at2 w _ _) | exact (((Below.refl _ w).alloc (Nat.le_refl _) _).alloc (by simp) _).drew | exact fun j x hj => prefix_get (rest := [(.int .u8 0 : Value), (.int .u8 0 : Value), (.int .u8 0 : Value), (.int .u8 0 : Value), (.int .u8 0 : Value), (.int .u8 0 : Value)]) hj | (simp [Value.oneCell']; done))
    intro w3 HG HB
    have HO : w3.ownsRow 0 5 1 (.slice (some ⟨w.heap.size + 1, 0, none⟩) 2 2) 2 (nums .u8 [Go.bits .or .u8 (v / 256) 64, v % 256]) := ⟨rfl, .inr ⟨_, 2, _, rfl, Nat.zero_le _, HG.out, Nat.le_refl _, by decide, rfl, rfl⟩⟩
    have hcv := own_string (src := 81) (dst := 9) Try.underlying81 Try.underlying5 Try.underlying9 HO
    clear HO HG
    have HB1 := Aside0.mk HB
    clear HB
    go_wp2
    go_ret2
    exact ⟨by rw [HN.out]; rfl, HB1.out⟩
/-- The bytes of a number of 4. -/
def num4 (v : Int) : List Int := [Go.bits .or .u8 (v / 16777216) 128, v / 65536 % 256, v / 256 % 256, v % 256]
set_option maxHeartbeats 8000000 in
set_option maxRecDepth 100000 in
theorem num4_calls (v : Int) (w : World) (h0 : 16384 ≤ v) (h1 : v < 1073741824) :
    Calls Try.prog 58 #[.int .u64 v] w fun e w' => e = .returned (.tuple #[.string (strOfNums (num4 v)), .int .i64 0]) ∧ Below w.heap.size w w' := by
  have HS := fun W => Aside0.mk (sizeI_4 h0 h1 ▸ pack_Size.calls0 v ⟨by omega, by omega⟩ W)
  have hmk : ∀ W : World, (Instr.makeSlice 81 (.int .i64 4) (.int .i64 4)).run Try.prog W = .ok (.slice (some ⟨W.heap.size, 0, none⟩) 4 4) (W.alloc (.cells #[.int .u8 0, .int .u8 0, .int .u8 0, .int .u8 0] 5)) := fun _ => by kernel_rfl
  have HN := Aside0.mk (show num4 v = [Go.bits .or .u8 (v / 16777216) 128, v / 65536 % 256, v / 256 % 256, v % 256] from rfl)
  go_enter Try.func58, Try.ntmps58
  go_wp2_with (go_at_call 53; refine (HS _).out.mono ?_; rintro e w' ⟨rfl, rfl⟩)
  refine wp_loop_rounds 5 ?_
  iterate 5 (rw [rounds_succ]; go_wp2)
  go_region_with (go_at_call 86; refine (tz_4 _).mono ?_; rintro e w2 ⟨rfl, rfl⟩)
  all_goals
    go_wp2_with (with_reducible refine wpList_copy_splice rfl (.tmp 38) (.tmp 40) 81 81 rfl 5 Try.underlying81 (by kernel_rfl) (some ⟨w.heap.size + 1, 0, none⟩) (some ⟨w.heap.size, 0, none⟩) 4 4 4 8 rfl rfl (w.heap.size + 1) 0 [(.int .u8 0 : Value), (.int .u8 0 : Value), (.int .u8 0 : Value), (.int .u8 0 : Value)] 5 ?_ [(.int .u8 (Go.bits .or .u8 (v / 16777216) 128) : Value), (.int .u8 (v / 65536 % 256) : Value), (.int .u8 (v / 256 % 256) : Value), (.int .u8 (v % 256) : Value)] rfl ?_ (by simp) ?_ w.heap.size w ?_ (Nat.le_succ _) ?_)
    any_goals (first | (with_reducible exact heap_at2 w _ _) | exact (((Below.refl _ w).alloc (Nat.le_refl _) _).alloc (by simp) _).drew | exact fun j x hj => prefix_get (rest := [(.int .u8 0 : Value), (.int .u8 0 : Value), (.int .u8 0 : Value), (.int .u8 0 : Value)]) hj | (simp [Value.oneCell']; done))
    intro w3 HG HB
    have HO : w3.ownsRow 0 5 1 (.slice (some ⟨w.heap.size + 1, 0, none⟩) 4 4) 4 (nums .u8 [Go.bits .or .u8 (v / 16777216) 128, v / 65536 % 256, v / 256 % 256, v % 256]) := ⟨rfl, .inr ⟨_, 4, _, rfl, Nat.zero_le _, HG.out, Nat.le_refl _, by decide, rfl, rfl⟩⟩
    have hcv := own_string (src := 81) (dst := 9) Try.underlying81 Try.underlying5 Try.underlying9 HO
    clear HO HG
    have HB1 := Aside0.mk HB
    clear HB
    go_wp2
    go_ret2
    exact ⟨by rw [HN.out]; rfl, HB1.out⟩
/-- The bytes of a number of 8. -/
def num8 (v : Int) : List Int := [Go.bits .or .u8 (v / 72057594037927936) 192, v / 281474976710656 % 256, v / 1099511627776 % 256, v / 4294967296 % 256, v / 16777216 % 256, v / 65536 % 256, v / 256 % 256, v % 256]
set_option maxHeartbeats 8000000 in
set_option maxRecDepth 100000 in
theorem num8_calls (v : Int) (w : World) (h0 : 1073741824 ≤ v) (h1 : v < 4611686018427387904) :
    Calls Try.prog 58 #[.int .u64 v] w fun e w' => e = .returned (.tuple #[.string (strOfNums (num8 v)), .int .i64 0]) ∧ Below w.heap.size w w' := by
  have HS := fun W => Aside0.mk (sizeI_8 h0 h1 ▸ pack_Size.calls0 v ⟨by omega, by omega⟩ W)
  have hmk : ∀ W : World, (Instr.makeSlice 81 (.int .i64 8) (.int .i64 8)).run Try.prog W = .ok (.slice (some ⟨W.heap.size, 0, none⟩) 8 8) (W.alloc (.cells #[.int .u8 0, .int .u8 0, .int .u8 0, .int .u8 0, .int .u8 0, .int .u8 0, .int .u8 0, .int .u8 0] 5)) := fun _ => by kernel_rfl
  have HN := Aside0.mk (show num8 v = [Go.bits .or .u8 (v / 72057594037927936) 192, v / 281474976710656 % 256, v / 1099511627776 % 256, v / 4294967296 % 256, v / 16777216 % 256, v / 65536 % 256, v / 256 % 256, v % 256] from rfl)
  go_enter Try.func58, Try.ntmps58
  go_wp2_with (go_at_call 53; refine (HS _).out.mono ?_; rintro e w' ⟨rfl, rfl⟩)
  refine wp_loop_rounds 9 ?_
  iterate 9 (rw [rounds_succ]; go_wp2)
  go_region_with (go_at_call 86; refine (tz_8 _).mono ?_; rintro e w2 ⟨rfl, rfl⟩)
  all_goals
    go_wp2_with (with_reducible refine wpList_copy_splice rfl (.tmp 38) (.tmp 40) 81 81 rfl 5 Try.underlying81 (by kernel_rfl) (some ⟨w.heap.size + 1, 0, none⟩) (some ⟨w.heap.size, 0, none⟩) 8 8 8 8 rfl rfl (w.heap.size + 1) 0 [(.int .u8 0 : Value), (.int .u8 0 : Value), (.int .u8 0 : Value), (.int .u8 0 : Value), (.int .u8 0 : Value), (.int .u8 0 : Value), (.int .u8 0 : Value), (.int .u8 0 : Value)] 5 ?_ [(.int .u8 (Go.bits .or .u8 (v / 72057594037927936) 192) : Value), (.int .u8 (v / 281474976710656 % 256) : Value), (.int .u8 (v / 1099511627776 % 256) : Value), (.int .u8 (v / 4294967296 % 256) : Value), (.int .u8 (v / 16777216 % 256) : Value), (.int .u8 (v / 65536 % 256) : Value), (.int .u8 (v / 256 % 256) : Value), (.int .u8 (v % 256) : Value)] rfl ?_ (by simp) ?_ w.heap.size w ?_ (Nat.le_succ _) ?_)
    any_goals (first | (with_reducible exact heap_at2 w _ _) | exact (((Below.refl _ w).alloc (Nat.le_refl _) _).alloc (by simp) _).drew | exact fun j x hj => prefix_get (rest := []) hj | (simp [Value.oneCell']; done))
    intro w3 HG HB
    have HO : w3.ownsRow 0 5 1 (.slice (some ⟨w.heap.size + 1, 0, none⟩) 8 8) 8 (nums .u8 [Go.bits .or .u8 (v / 72057594037927936) 192, v / 281474976710656 % 256, v / 1099511627776 % 256, v / 4294967296 % 256, v / 16777216 % 256, v / 65536 % 256, v / 256 % 256, v % 256]) := ⟨rfl, .inr ⟨_, 8, _, rfl, Nat.zero_le _, HG.out, Nat.le_refl _, by decide, rfl, rfl⟩⟩
    have hcv := own_string (src := 81) (dst := 9) Try.underlying81 Try.underlying5 Try.underlying9 HO
    clear HO HG
    have HB1 := Aside0.mk HB
    clear HB
    go_wp2
    go_ret2
    exact ⟨by rw [HN.out]; rfl, HB1.out⟩
set_option maxHeartbeats 8000000 in
set_option maxRecDepth 100000 in
theorem num0_calls (v : Int) (w : World) (h0 : 4611686018427387904 ≤ v) (h1 : v ≤ 18446744073709551615) :
    Calls Try.prog 58 #[.int .u64 v] w fun e w' => e = .returned (.tuple #[.string ⟨#[]⟩, .int .i64 4]) ∧ Below w.heap.size w w' := by
  have HS := fun W => Aside0.mk (sizeI_0 h0 ▸ pack_Size.calls0 v ⟨by omega, by omega⟩ W)
  go_enter Try.func58, Try.ntmps58
  go_wp2_with (go_at_call 53; refine (HS _).out.mono ?_; rintro e w' ⟨rfl, rfl⟩)
  go_ret2
  exact ⟨rfl, Below.refl _ _⟩
/-- A number's bytes, and whether it has any. -/
def numL (v : Int) : List Int := if v < 64 then num1 v else if v < 16384 then num2 v else if v < 1073741824 then num4 v else if v < 4611686018427387904 then num8 v else []
def numE (v : Int) : Int := if v < 4611686018427387904 then 0 else 4
def pack_Num.f (v : Int) : Option (ByteArray × Int) := if inU64 v then some (strOfNums (numL v), numE v) else none
theorem pack_Num.calls (a0 : Int) (r1 : ByteArray) (r2 : Int) (w : World) (h : pack_Num.f a0 = some (r1, r2)) : Calls Try.prog 58 #[.int .u64 a0] w fun e w' => e = .returned (.tuple #[.string r1, .int .i64 r2]) ∧ Below w.heap.size w w' := by
  unfold pack_Num.f at h
  by_cases hi : inU64 a0
  · rw [if_pos hi] at h
    simp only [Option.some.injEq, Prod.mk.injEq] at h
    obtain ⟨rfl, rfl⟩ := h
    obtain ⟨h0, h1⟩ := hi
    unfold numL numE
    by_cases c1 : a0 < 64
    · rw [if_pos c1, if_pos (by omega)]; exact num1_calls a0 w h0 c1
    · rw [if_neg c1]
      by_cases c2 : a0 < 16384
      · rw [if_pos c2, if_pos (by omega)]; exact num2_calls a0 w (by omega) c2
      · rw [if_neg c2]
        by_cases c3 : a0 < 1073741824
        · rw [if_pos c3, if_pos (by omega)]; exact num4_calls a0 w (by omega) c3
        · rw [if_neg c3]
          by_cases c4 : a0 < 4611686018427387904
          · rw [if_pos c4, if_pos c4]; exact num8_calls a0 w (by omega) c4
          · rw [if_neg c4, if_neg c4]; exact num0_calls a0 w (by omega) h1
  · rw [if_neg hi] at h
    cases h
end Go.Proofs.Ytfjhlcbpogihmaa.Pr
