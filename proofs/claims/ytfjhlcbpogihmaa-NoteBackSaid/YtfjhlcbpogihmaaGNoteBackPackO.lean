/- Plain laws of pack's taken number: what was taken is what was written, and nothing shorter is taken. Conditions: none. -/
import Derived.Test.YtfjhlcbpogihmaaKNoteBack6
namespace Go.Proofs.Ytfjhlcbpogihmaa.Pr
open Go.RowKit Go.Proofs.YtfjhlcbpogihmaaW.PrintWords Go.Proofs.YtfjhlcbpogihmaaW.PrintLast Go.Proofs.YtfjhlcbpogihmaaW.PrintMore
theorem extract_bytes (a : ByteArray) (n : Nat) (h : n ≤ a.size) : strOfNums ((List.range n).map fun i : Nat => bt a (i : Int)) = a.extract 0 n := by
  apply ByteArray.ext
  apply Array.ext
  · show (strOfNums _).size = (a.extract 0 n).size
    rw [strOfNums_size, ByteArray.size_extract]
    simp only [List.length_map, List.length_range]
    omega
  · intro i h1 h2
    have hi : i < n := by
      have : i < (strOfNums ((List.range n).map fun i : Nat => bt a (i : Int))).size := h1
      rw [strOfNums_size] at this
      simpa using this
    have hia : i < a.size := by omega
    have hl : (strOfNums ((List.range n).map fun i : Nat => bt a (i : Int))).data[i]'h1 = UInt8.ofNat (bt a (i : Int)).toNat := by
      simp [strOfNums]
    rw [hl]
    have hb : bt a (i : Int) = ((a[i]'hia).toNat : Int) := by
      have := bt_at a (i : Int) (by simpa using hia)
      rw [← this]
      simp
    rw [hb]
    have hr : (a.extract 0 n).data[i]'h2 = a[i]'hia := by
      simp only [ByteArray.data_extract, Array.getElem_extract, Nat.zero_add]
      rfl
    rw [hr]
    simp
theorem end_step (k : Nat) (a : ByteArray) (n x i : Int) (hx : inU64 x) (hn0 : 0 ≤ n) (hn : n ≤ a.size) (hi : ¬ i < n) : pack_TakeNum.l0 (k + 1) a n x i = if sizeI x = n then some (x, a.extract n.toNat a.size, 0) else some (0, (⟨#[]⟩ : ByteArray), 3) := by
  rw [pack_TakeNum.l0, if_neg hi, size_f hx, Option.bind_some, if_pos hn0, if_pos hn]
theorem run1 (a : ByteArray) (hs : (1 : Int) ≤ a.size) (hq : bt a 0 / 64 = 0) : ∃ v, pack_TakeNum.l0 20 a 1 (bt a 0 % 64) 1 = (if sizeI v = 1 then some (v, a.extract 1 a.size, 0) else some (0, (⟨#[]⟩ : ByteArray), 3)) ∧ inU64 v ∧ (sizeI v = 1 → numL v = [bt a 0]) := by
  have r0 := bt_range a 0
  obtain ⟨x1, e1⟩ : ∃ x, x = bt a 0 % 64 := ⟨_, rfl⟩
  refine ⟨x1, ?_, ?_, ?_⟩
  · rw [← e1]
    rw [end_step 19 a 1 x1 1 (by unfold inU64; omega) (by omega) hs (by omega)]
    rfl
  · unfold inU64; omega
  · intro hz
    have hv : 0 ≤ x1 ∧ x1 < 64 := by have := sizeI_cases x1; omega
    unfold numL
    rw [if_pos hv.2, num1_eq hv.1 hv.2]
    simp only [List.cons.injEq, and_true]
    omega
theorem run2 (a : ByteArray) (hs : (2 : Int) ≤ a.size) (hq : bt a 0 / 64 = 1) : ∃ v, pack_TakeNum.l0 20 a 2 (bt a 0 % 64) 1 = (if sizeI v = 2 then some (v, a.extract 2 a.size, 0) else some (0, (⟨#[]⟩ : ByteArray), 3)) ∧ inU64 v ∧ (sizeI v = 2 → numL v = [bt a 0, bt a 1]) := by
  have r0 := bt_range a 0
  have r1 := bt_range a 1
  obtain ⟨x1, e1⟩ : ∃ x, x = bt a 0 % 64 := ⟨_, rfl⟩
  obtain ⟨x2, e2⟩ : ∃ x, x = x1 * 256 + bt a 1 := ⟨_, rfl⟩
  refine ⟨x2, ?_, ?_, ?_⟩
  · rw [← e1]
    rw [take_step 19 a 2 x1 1 (bt a 1) x2 (by omega) (by omega) (by omega) rfl r1 (by omega) (by omega) e2.symm (by omega)]
    rw [(by omega : (1 : Int) + 1 = 2)]
    rw [end_step 18 a 2 x2 2 (by unfold inU64; omega) (by omega) hs (by omega)]
    rfl
  · unfold inU64; omega
  · intro hz
    have hv : 64 ≤ x2 ∧ x2 < 16384 := by have := sizeI_cases x2; omega
    unfold numL
    rw [if_neg (by omega), if_pos hv.2, num2_eq hv.1 hv.2]
    simp only [List.cons.injEq, and_true]
    refine ⟨?_, ?_⟩ <;> omega
theorem run4 (a : ByteArray) (hs : (4 : Int) ≤ a.size) (hq : bt a 0 / 64 = 2) : ∃ v, pack_TakeNum.l0 20 a 4 (bt a 0 % 64) 1 = (if sizeI v = 4 then some (v, a.extract 4 a.size, 0) else some (0, (⟨#[]⟩ : ByteArray), 3)) ∧ inU64 v ∧ (sizeI v = 4 → numL v = [bt a 0, bt a 1, bt a 2, bt a 3]) := by
  have r0 := bt_range a 0
  have r1 := bt_range a 1
  have r2 := bt_range a 2
  have r3 := bt_range a 3
  obtain ⟨x1, e1⟩ : ∃ x, x = bt a 0 % 64 := ⟨_, rfl⟩
  obtain ⟨x2, e2⟩ : ∃ x, x = x1 * 256 + bt a 1 := ⟨_, rfl⟩
  obtain ⟨x3, e3⟩ : ∃ x, x = x2 * 256 + bt a 2 := ⟨_, rfl⟩
  obtain ⟨x4, e4⟩ : ∃ x, x = x3 * 256 + bt a 3 := ⟨_, rfl⟩
  refine ⟨x4, ?_, ?_, ?_⟩
  · rw [← e1]
    rw [take_step 19 a 4 x1 1 (bt a 1) x2 (by omega) (by omega) (by omega) rfl r1 (by omega) (by omega) e2.symm (by omega)]
    rw [(by omega : (1 : Int) + 1 = 2)]
    rw [take_step 18 a 4 x2 2 (bt a 2) x3 (by omega) (by omega) (by omega) rfl r2 (by omega) (by omega) e3.symm (by omega)]
    rw [(by omega : (2 : Int) + 1 = 3)]
    rw [take_step 17 a 4 x3 3 (bt a 3) x4 (by omega) (by omega) (by omega) rfl r3 (by omega) (by omega) e4.symm (by omega)]
    rw [(by omega : (3 : Int) + 1 = 4)]
    rw [end_step 16 a 4 x4 4 (by unfold inU64; omega) (by omega) hs (by omega)]
    rfl
  · unfold inU64; omega
  · intro hz
    have hv : 16384 ≤ x4 ∧ x4 < 1073741824 := by have := sizeI_cases x4; omega
    unfold numL
    rw [if_neg (by omega), if_neg (by omega), if_pos hv.2, num4_eq hv.1 hv.2]
    simp only [List.cons.injEq, and_true]
    refine ⟨?_, ?_, ?_, ?_⟩ <;> omega
theorem run8 (a : ByteArray) (hs : (8 : Int) ≤ a.size) (hq : bt a 0 / 64 = 3) : ∃ v, pack_TakeNum.l0 20 a 8 (bt a 0 % 64) 1 = (if sizeI v = 8 then some (v, a.extract 8 a.size, 0) else some (0, (⟨#[]⟩ : ByteArray), 3)) ∧ inU64 v ∧ (sizeI v = 8 → numL v = [bt a 0, bt a 1, bt a 2, bt a 3, bt a 4, bt a 5, bt a 6, bt a 7]) := by
  have r0 := bt_range a 0
  have r1 := bt_range a 1
  have r2 := bt_range a 2
  have r3 := bt_range a 3
  have r4 := bt_range a 4
  have r5 := bt_range a 5
  have r6 := bt_range a 6
  have r7 := bt_range a 7
  obtain ⟨x1, e1⟩ : ∃ x, x = bt a 0 % 64 := ⟨_, rfl⟩
  obtain ⟨x2, e2⟩ : ∃ x, x = x1 * 256 + bt a 1 := ⟨_, rfl⟩
  obtain ⟨x3, e3⟩ : ∃ x, x = x2 * 256 + bt a 2 := ⟨_, rfl⟩
  obtain ⟨x4, e4⟩ : ∃ x, x = x3 * 256 + bt a 3 := ⟨_, rfl⟩
  obtain ⟨x5, e5⟩ : ∃ x, x = x4 * 256 + bt a 4 := ⟨_, rfl⟩
  obtain ⟨x6, e6⟩ : ∃ x, x = x5 * 256 + bt a 5 := ⟨_, rfl⟩
  obtain ⟨x7, e7⟩ : ∃ x, x = x6 * 256 + bt a 6 := ⟨_, rfl⟩
  obtain ⟨x8, e8⟩ : ∃ x, x = x7 * 256 + bt a 7 := ⟨_, rfl⟩
  refine ⟨x8, ?_, ?_, ?_⟩
  · rw [← e1]
    rw [take_step 19 a 8 x1 1 (bt a 1) x2 (by omega) (by omega) (by omega) rfl r1 (by omega) (by omega) e2.symm (by omega)]
    rw [(by omega : (1 : Int) + 1 = 2)]
    rw [take_step 18 a 8 x2 2 (bt a 2) x3 (by omega) (by omega) (by omega) rfl r2 (by omega) (by omega) e3.symm (by omega)]
    rw [(by omega : (2 : Int) + 1 = 3)]
    rw [take_step 17 a 8 x3 3 (bt a 3) x4 (by omega) (by omega) (by omega) rfl r3 (by omega) (by omega) e4.symm (by omega)]
    rw [(by omega : (3 : Int) + 1 = 4)]
    rw [take_step 16 a 8 x4 4 (bt a 4) x5 (by omega) (by omega) (by omega) rfl r4 (by omega) (by omega) e5.symm (by omega)]
    rw [(by omega : (4 : Int) + 1 = 5)]
    rw [take_step 15 a 8 x5 5 (bt a 5) x6 (by omega) (by omega) (by omega) rfl r5 (by omega) (by omega) e6.symm (by omega)]
    rw [(by omega : (5 : Int) + 1 = 6)]
    rw [take_step 14 a 8 x6 6 (bt a 6) x7 (by omega) (by omega) (by omega) rfl r6 (by omega) (by omega) e7.symm (by omega)]
    rw [(by omega : (6 : Int) + 1 = 7)]
    rw [take_step 13 a 8 x7 7 (bt a 7) x8 (by omega) (by omega) (by omega) rfl r7 (by omega) (by omega) e8.symm (by omega)]
    rw [(by omega : (7 : Int) + 1 = 8)]
    rw [end_step 12 a 8 x8 8 (by unfold inU64; omega) (by omega) hs (by omega)]
    rfl
  · unfold inU64; omega
  · intro hz
    have hv : 1073741824 ≤ x8 ∧ x8 < 4611686018427387904 := by have := sizeI_cases x8; omega
    unfold numL
    rw [if_neg (by omega), if_neg (by omega), if_neg (by omega), if_pos hv.2, num8_eq hv.1 hv.2]
    simp only [List.cons.injEq, and_true]
    refine ⟨?_, ?_, ?_, ?_, ?_, ?_, ?_, ?_⟩ <;> omega
theorem take_short (k : Nat) (a : ByteArray) (n : Int) (hn : shl .i64 1 (bt a 0 / 64) = n) (m : Nat) (hm : (m : Int) < n) (hma : m ≤ a.size) : pack_TakeNum.f k (a.extract 0 m) = some (0, (⟨#[]⟩ : ByteArray), 2) := by
  have hz : (a.extract 0 m).size = m := by rw [ByteArray.size_extract]; omega
  unfold pack_TakeNum.f
  by_cases h0 : m = 0
  · rw [if_pos (toList_nil.mpr (by omega))]
  · have hb : bt (a.extract 0 m) 0 = bt a 0 := by
      have h1 := bt_at (a.extract 0 m) 0 (by rw [hz]; show 0 < m; omega)
      have h2 := bt_at a 0 (by show 0 < a.size; omega)
      rw [← h1, ← h2]
      congr 1
      show ((a.extract 0 m)[0]'_).toNat = (a[0]'_).toNat
      rw [ByteArray.getElem_extract]
    obtain ⟨hb0, hb1⟩ := bt_range a 0
    rw [if_neg (by rw [toList_nil]; omega), if_pos (by omega), hb, if_pos (by omega), hn, if_pos (by omega)]
theorem take_full (a : ByteArray) : (∃ e, e ≠ 0 ∧ pack_TakeNum.f 20 a = some (0, (⟨#[]⟩ : ByteArray), e)) ∨
    ∃ (n : Nat) (v : Int), 1 ≤ n ∧ n ≤ 8 ∧ n ≤ a.size ∧ pack_TakeNum.f 20 a = some (v, a.extract n a.size, 0) ∧ inU64 v ∧ v < 4611686018427387904 ∧ strOfNums (numL v) = a.extract 0 n ∧ ∀ k m, m < n → pack_TakeNum.f k (a.extract 0 m) = some (0, (⟨#[]⟩ : ByteArray), 2) := by
  by_cases h0 : (a.size : Int) = 0
  · refine Or.inl ⟨2, by omega, ?_⟩
    unfold pack_TakeNum.f
    rw [if_pos (toList_nil.mpr h0)]
  · obtain ⟨hb0, hb1⟩ := bt_range a 0
    have key : ∀ (n : Nat) (q : Int), 1 ≤ n → n ≤ 8 → bt a 0 / 64 = q → shl .i64 1 q = (n : Int) →
        (n ≤ a.size → ∃ v, pack_TakeNum.l0 20 a (n : Int) (bt a 0 % 64) 1 = (if sizeI v = (n : Int) then some (v, a.extract n a.size, 0) else some (0, (⟨#[]⟩ : ByteArray), 3)) ∧ inU64 v ∧ (sizeI v = (n : Int) → strOfNums (numL v) = a.extract 0 n)) →
        (∃ e, e ≠ 0 ∧ pack_TakeNum.f 20 a = some (0, (⟨#[]⟩ : ByteArray), e)) ∨
        ∃ (n : Nat) (v : Int), 1 ≤ n ∧ n ≤ 8 ∧ n ≤ a.size ∧ pack_TakeNum.f 20 a = some (v, a.extract n a.size, 0) ∧ inU64 v ∧ v < 4611686018427387904 ∧ strOfNums (numL v) = a.extract 0 n ∧ ∀ k m, m < n → pack_TakeNum.f k (a.extract 0 m) = some (0, (⟨#[]⟩ : ByteArray), 2) := by
      intro n q h1 h8 hq hsh hrun
      have hshort := fun (k m : Nat) (hm : m < n) (hma : m ≤ a.size) => take_short k a (n : Int) (by rw [hq]; exact hsh) m (by omega) hma
      have hf : pack_TakeNum.f 20 a = if (a.size : Int) < (n : Int) then some (0, (⟨#[]⟩ : ByteArray), 2) else pack_TakeNum.l0 20 a (n : Int) (bt a 0 % 64) 1 := by
        unfold pack_TakeNum.f
        rw [if_neg (by rw [toList_nil]; exact h0), if_pos (by omega), if_pos (by omega), hq, hsh, and63]
      by_cases hs : (a.size : Int) < (n : Int)
      · refine Or.inl ⟨2, by omega, ?_⟩
        rw [hf, if_pos hs]
      · obtain ⟨v, hv, hi, hL⟩ := hrun (by omega)
        rw [if_neg hs, hv] at hf
        by_cases hz : sizeI v = (n : Int)
        · rw [if_pos hz] at hf
          refine Or.inr ⟨n, v, h1, h8, by omega, hf, hi, ?_, hL hz, fun k m hm => hshort k m hm (by omega)⟩
          have := sizeI_cases v
          omega
        · rw [if_neg hz] at hf
          exact Or.inl ⟨3, by omega, hf⟩
    have hcase : bt a 0 / 64 = 0 ∨ bt a 0 / 64 = 1 ∨ bt a 0 / 64 = 2 ∨ bt a 0 / 64 = 3 := by omega
    rcases hcase with h | h | h | h
    · refine key 1 0 (by omega) (by omega) h (by decide +kernel) (fun hs => ?_)
      obtain ⟨v, hv, hi, hL⟩ := run1 a (by omega) h
      refine ⟨v, hv, hi, fun hz => ?_⟩
      rw [hL hz, ← extract_bytes a 1 hs]
      rfl
    · refine key 2 1 (by omega) (by omega) h (by decide +kernel) (fun hs => ?_)
      obtain ⟨v, hv, hi, hL⟩ := run2 a (by omega) h
      refine ⟨v, hv, hi, fun hz => ?_⟩
      rw [hL hz, ← extract_bytes a 2 hs]
      rfl
    · refine key 4 2 (by omega) (by omega) h (by decide +kernel) (fun hs => ?_)
      obtain ⟨v, hv, hi, hL⟩ := run4 a (by omega) h
      refine ⟨v, hv, hi, fun hz => ?_⟩
      rw [hL hz, ← extract_bytes a 4 hs]
      rfl
    · refine key 8 3 (by omega) (by omega) h (by decide +kernel) (fun hs => ?_)
      obtain ⟨v, hv, hi, hL⟩ := run8 a (by omega) h
      refine ⟨v, hv, hi, fun hz => ?_⟩
      rw [hL hz, ← extract_bytes a 8 hs]
      rfl
end Go.Proofs.Ytfjhlcbpogihmaa.Pr
