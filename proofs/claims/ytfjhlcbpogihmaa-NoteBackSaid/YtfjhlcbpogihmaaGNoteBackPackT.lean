/- Plain laws of pack's number-taking: both loops alike, the loop over given bytes. Conditions: none. -/
import Derived.Test.YtfjhlcbpogihmaaKNoteBack5
import Derived.Test.YtfjhlcbpogihmaaKNoteBack3
import Derived.Test.YtfjhlcbpogihmaaGNoteBackPr16
namespace Go.Proofs.Ytfjhlcbpogihmaa.Pr
open Go.RowKit Go.Proofs.YtfjhlcbpogihmaaW.PrintWords Go.Proofs.YtfjhlcbpogihmaaW.PrintLast Go.Proofs.YtfjhlcbpogihmaaW.PrintMore
theorem wrap_in {x : Int} (h0 : 0 ≤ x) (h1 : x < 18446744073709551616) : IntKind.u64.wrap x = x := by
  rw [IntKind.wrap_u64]
  omega
theorem wrap64_in {x : Int} (h0 : 0 ≤ x) (h1 : x < 100) : wrap64 x = x := by
  simp [wrap64]
  omega
theorem or_step {x b : Int} (hb0 : 0 ≤ b) (hb1 : b ≤ 255) : Go.bits .or .u64 (IntKind.u64.wrap (x * 256)) (IntKind.u64.wrap b) = IntKind.u64.wrap (IntKind.u64.wrap (x * 256) + IntKind.u64.wrap b) := by
  rw [IntKind.wrap_u64 (x * 256), wrap_in hb0 (by omega), wrap_in (by omega) (by omega)]
  exact bits_join .u64 64 (by decide) (fun n h0 h1 => wrap_in h0 (by omega)) 8 _ _ (by omega) (by omega) (by omega) hb0 (by omega) (by omega)
theorem or_val {x b : Int} (hx0 : 0 ≤ x) (hx : x < 72057594037927936) (hb0 : 0 ≤ b) (hb1 : b ≤ 255) : Go.bits .or .u64 (IntKind.u64.wrap (x * 256)) (IntKind.u64.wrap b) = x * 256 + b := by
  rw [or_step hb0 hb1, wrap_in (x := x * 256) (by omega) (by omega), wrap_in hb0 (by omega), wrap_in (by omega) (by omega)]
theorem inU64_wrap (x : Int) : inU64 (IntKind.u64.wrap x) := by
  rw [IntKind.wrap_u64]
  unfold inU64
  omega
theorem rsize_f (v : Int) : ferruleref01_Size.f v = some (sizeI v) := by
  unfold ferruleref01_Size.f sizeI
  repeat (first | rfl | split)
theorem toList_nil {a : ByteArray} : a.toList = [] ↔ (a.size : Int) = 0 := by
  rw [ByteArray.toList_eq]
  have := data_length a
  rw [← List.length_eq_zero_iff]
  omega
theorem and63 (s : ByteArray) : IntKind.u64.wrap (Go.bits .and .u8 (bt s 0) 63) = bt s 0 % 64 := by
  obtain ⟨h0, h1⟩ := bt_range s 0
  generalize bt s 0 = b at *
  obtain ⟨n, rfl⟩ := Int.eq_ofNat_of_zero_le h0
  have hn : n < 256 := by omega
  exact (by decide +kernel : ∀ n : Fin 256, IntKind.u64.wrap (Go.bits .and .u8 (n.val : Int) 63) = (n.val : Int) % 64) ⟨n, hn⟩
theorem take_loop : ∀ (d : Nat) (a : ByteArray) (n x i : Int), inU64 x → 0 ≤ i → n ≤ i + d → n < 50 → 0 ≤ n → n ≤ a.size →
    ∃ r, ∀ k, pack_TakeNum.l0 (k + d + 1) a n x i = some r ∧ ferruleref01_TakeNum.l1 (k + d + 1) a n x i = some r := by
  have hend : ∀ (a : ByteArray) (n x i : Int), inU64 x → 0 ≤ n → n ≤ a.size → ¬ i < n → ∃ r, ∀ k, pack_TakeNum.l0 (k + 1) a n x i = some r ∧ ferruleref01_TakeNum.l1 (k + 1) a n x i = some r := by
    intro a n x i hx hn0 hn hi
    by_cases hs : sizeI x = n
    · refine ⟨(x, a.extract n.toNat a.size, 0), fun k => ⟨?_, ?_⟩⟩
      · rw [pack_TakeNum.l0, if_neg hi, size_f hx, Option.bind_some, if_pos hs, if_pos hn0, if_pos hn]
      · rw [ferruleref01_TakeNum.l1, if_neg hi, rsize_f, Option.bind_some, if_pos hs, if_pos hn0, if_pos hn]
    · refine ⟨(0, (⟨#[]⟩ : ByteArray), 3), fun k => ⟨?_, ?_⟩⟩
      · rw [pack_TakeNum.l0, if_neg hi, size_f hx, Option.bind_some, if_neg hs]
      · rw [ferruleref01_TakeNum.l1, if_neg hi, rsize_f, Option.bind_some, if_neg hs]
  intro d
  induction d with
  | zero =>
    intro a n x i hx hi hn hn1 hn0 ha
    exact hend a n x i hx hn0 ha (by omega)
  | succ d ih =>
    intro a n x i hx hi hn hn1 hn0 ha
    by_cases hlt : i < n
    · obtain ⟨hb0, hb1⟩ := bt_range a i
      obtain ⟨r, hr⟩ := ih a n (IntKind.u64.wrap (IntKind.u64.wrap (x * 256) + IntKind.u64.wrap (bt a i))) (i + 1) (inU64_wrap _) (by omega) (by omega) hn1 hn0 ha
      refine ⟨r, fun k => ⟨?_, ?_⟩⟩
      · show pack_TakeNum.l0 ((k + d + 1) + 1) a n x i = _
        rw [pack_TakeNum.l0, if_pos hlt, if_pos hi, if_pos (by omega), or_step hb0 hb1, wrap64_in (by omega) (by omega)]
        exact (hr k).1
      · show ferruleref01_TakeNum.l1 ((k + d + 1) + 1) a n x i = _
        rw [ferruleref01_TakeNum.l1, if_pos hlt, if_pos hi, if_pos (by omega), wrap64_in (by omega) (by omega)]
        exact (hr k).2
    · obtain ⟨r, hr⟩ := hend a n x i hx hn0 ha hlt
      exact ⟨r, fun k => hr (k + (d + 1))⟩
theorem ref_head (k : Nat) (a : ByteArray) (ha : 0 < (a.size : Int)) (n i : Int) : ferruleref01_TakeNum.l0 (k + 1) a n i = if i < bt a 0 / 64 then ferruleref01_TakeNum.l0 k a (wrap64 (n * 2)) ((i + 1) % 256) else if (a.size : Int) < n then some (0, (⟨#[]⟩ : ByteArray), 2) else ferruleref01_TakeNum.l1 k a n (bt a 0 % 64) 1 := by
  obtain ⟨hb0, hb1⟩ := bt_range a 0
  rw [ferruleref01_TakeNum.l0, if_pos ha, Int.tdiv_eq_ediv_of_nonneg hb0, Int.tmod_eq_emod_of_nonneg hb0, wrap_in (by omega) (by omega), Int.emod_eq_of_lt (by omega : 0 ≤ bt a 0 / 64) (by omega)]
theorem take_both (a : ByteArray) : ∃ r, pack_TakeNum.f 20 a = some r ∧ ferruleref01_TakeNum.f 20 a = some r := by
  by_cases h0 : (a.size : Int) = 0
  · refine ⟨(0, (⟨#[]⟩ : ByteArray), 2), ?_, ?_⟩
    · unfold pack_TakeNum.f
      rw [if_pos (toList_nil.mpr h0)]
    · unfold ferruleref01_TakeNum.f
      rw [if_pos h0]
  · have hp : 0 < (a.size : Int) := by omega
    obtain ⟨hb0, hb1⟩ := bt_range a 0
    have key : ∀ (n : Int) (q : Nat), q ≤ 3 → bt a 0 / 64 = q → shl .i64 1 (q : Int) = n → 0 ≤ n → n ≤ 8 →
        (∀ k, ferruleref01_TakeNum.l0 (k + q + 1) a 1 0 = if (a.size : Int) < n then some (0, (⟨#[]⟩ : ByteArray), 2) else ferruleref01_TakeNum.l1 k a n (bt a 0 % 64) 1) →
        ∃ r, pack_TakeNum.f 20 a = some r ∧ ferruleref01_TakeNum.f 20 a = some r := by
      intro n q hq hbq hsh hn0 hn8 hl
      unfold pack_TakeNum.f ferruleref01_TakeNum.f
      rw [if_neg (by rw [toList_nil]; exact h0), if_pos hp, if_pos (by omega), if_neg h0, hbq, hsh, and63]
      have h20 : ferruleref01_TakeNum.l0 20 a 1 0 = ferruleref01_TakeNum.l0 ((19 - q) + q + 1) a 1 0 := by congr 1; omega
      rw [h20, hl]
      by_cases hs : (a.size : Int) < n
      · rw [if_pos hs, if_pos hs]
        exact ⟨_, rfl, rfl⟩
      · rw [if_neg hs, if_neg hs]
        obtain ⟨r, hr⟩ := take_loop 8 a n (bt a 0 % 64) 1 (by unfold inU64; omega) (by omega) (by omega) (by omega) hn0 (by omega)
        refine ⟨r, (hr 11).1, ?_⟩
        have h19 : ferruleref01_TakeNum.l1 (19 - q) a n (bt a 0 % 64) 1 = ferruleref01_TakeNum.l1 ((10 - q) + 8 + 1) a n (bt a 0 % 64) 1 := by congr 1; omega
        rw [h19]
        exact (hr (10 - q)).2
    have hcase : bt a 0 / 64 = 0 ∨ bt a 0 / 64 = 1 ∨ bt a 0 / 64 = 2 ∨ bt a 0 / 64 = 3 := by omega
    have w2 : wrap64 (1 * 2) = 2 := wrap64_in (by omega) (by omega)
    have w4 : wrap64 (2 * 2) = 4 := wrap64_in (by omega) (by omega)
    have w8 : wrap64 (4 * 2) = 8 := wrap64_in (by omega) (by omega)
    rcases hcase with h | h | h | h
    · refine key 1 0 (by omega) h (by decide +kernel) (by omega) (by omega) (fun k => ?_)
      rw [ref_head _ a hp, if_neg (by omega)]
    · refine key 2 1 (by omega) h (by decide +kernel) (by omega) (by omega) (fun k => ?_)
      rw [ref_head _ a hp, if_pos (by omega), ref_head _ a hp, if_neg (by omega), w2]
    · refine key 4 2 (by omega) h (by decide +kernel) (by omega) (by omega) (fun k => ?_)
      rw [ref_head _ a hp, if_pos (by omega), ref_head _ a hp, if_pos (by omega), ref_head _ a hp, if_neg (by omega), w2, w4]
    · refine key 8 3 (by omega) h (by decide +kernel) (by omega) (by omega) (fun k => ?_)
      rw [ref_head _ a hp, if_pos (by omega), ref_head _ a hp, if_pos (by omega), ref_head _ a hp, if_pos (by omega), ref_head _ a hp, if_neg (by omega), w2, w4, w8]
theorem bt_nums (L : List Int) (a : ByteArray) (j : Nat) (h : j < L.length) (hb : 0 ≤ L[j] ∧ L[j] ≤ 255) : bt (strOfNums L ++ a) (j : Int) = L[j] := by
  have hj : ((j : Int)).toNat = j := by omega
  have hlt : j < (strOfNums L ++ a).size := by rw [ByteArray.size_append, strOfNums_size]; omega
  unfold bt
  simp only [hj, dif_pos hlt]
  have hl : j < (strOfNums L).size := by rw [strOfNums_size]; exact h
  rw [ByteArray.getElem_append_left hl]
  show (((strOfNums L).data[j]'hl).toNat : Int) = L[j]
  simp only [strOfNums, List.getElem_toArray, List.getElem_map, UInt8.toNat_ofNat']
  omega
theorem take_step (k : Nat) (s : ByteArray) (n x i b y : Int) (hi : i < n) (h0 : 0 ≤ i) (hs : i < s.size) (hb : bt s i = b) (hb0 : 0 ≤ b ∧ b ≤ 255) (hx0 : 0 ≤ x) (hx : x < 72057594037927936) (hy : x * 256 + b = y) (hi8 : i < 8) : pack_TakeNum.l0 (k + 1) s n x i = pack_TakeNum.l0 k s n y (i + 1) := by
  rw [pack_TakeNum.l0, if_pos hi, if_pos h0, if_pos hs, hb, or_val hx0 hx hb0.1 hb0.2, hy, wrap64_in (by omega) (by omega)]
theorem back1 {v : Int} (a : ByteArray) (k : Nat) (h0 : 0 ≤ v) (h1 : v < 64) : pack_TakeNum.f (k + 2) (strOfNums (numL v) ++ a) = some (v, a, 0) := by
  have hL : numL v = [v] := by
    unfold numL; rw [if_pos h1, num1_eq h0 h1]
  have hz : sizeI v = 1 := by have := sizeI_cases v; omega
  rw [hL]
  have hb := bt_nums [v] a
  have b0 : bt (strOfNums [v] ++ a) 0 = v := hb 0 (by show 0 < (_ : Nat); simp only [List.length_cons, List.length_nil]; omega) (by show 0 ≤ v ∧ v ≤ 255; omega)
  have hs : ((strOfNums [v] ++ a).size : Int) = 1 + a.size := by rw [ByteArray.size_append, strOfNums_size]; show ((1 + a.size : Nat) : Int) = _; omega
  have he : (strOfNums [v] ++ a).extract 1 (strOfNums [v] ++ a).size = a := ByteArray.extract_append_eq_right (by rw [strOfNums_size]; rfl) (by rw [ByteArray.size_append])
  generalize strOfNums [v] ++ a = s at *
  have hq : bt s 0 / 64 = 0 := by rw [b0]; omega
  have hm : bt s 0 % 64 = v := by rw [b0]; omega
  unfold pack_TakeNum.f
  rw [if_neg (by rw [toList_nil]; omega), if_pos (by omega), if_pos (by omega), hq, (by decide +kernel : shl .i64 1 0 = 1), if_neg (by omega), and63, hm]
  rw [pack_TakeNum.l0, if_neg (by omega), size_f (by unfold inU64; omega), Option.bind_some, if_pos hz, if_pos (by omega), if_pos (by omega)]
  rw [(by rfl : ((1 : Int)).toNat = 1), he]
theorem back2 {v : Int} (a : ByteArray) (k : Nat) (h0 : 64 ≤ v) (h1 : v < 16384) : pack_TakeNum.f (k + 3) (strOfNums (numL v) ++ a) = some (v, a, 0) := by
  have hL : numL v = [v / 256 + 64, v % 256] := by
    unfold numL; rw [if_neg (by omega), if_pos h1, num2_eq h0 h1]
  have hz : sizeI v = 2 := by have := sizeI_cases v; omega
  rw [hL]
  have hb := bt_nums [v / 256 + 64, v % 256] a
  have b0 : bt (strOfNums [v / 256 + 64, v % 256] ++ a) 0 = v / 256 + 64 := hb 0 (by show 0 < (_ : Nat); simp only [List.length_cons, List.length_nil]; omega) (by show 0 ≤ v / 256 + 64 ∧ v / 256 + 64 ≤ 255; omega)
  have b1 : bt (strOfNums [v / 256 + 64, v % 256] ++ a) 1 = v % 256 := hb 1 (by show 1 < (_ : Nat); simp only [List.length_cons, List.length_nil]; omega) (by show 0 ≤ v % 256 ∧ v % 256 ≤ 255; omega)
  have hs : ((strOfNums [v / 256 + 64, v % 256] ++ a).size : Int) = 2 + a.size := by rw [ByteArray.size_append, strOfNums_size]; show ((2 + a.size : Nat) : Int) = _; omega
  have he : (strOfNums [v / 256 + 64, v % 256] ++ a).extract 2 (strOfNums [v / 256 + 64, v % 256] ++ a).size = a := ByteArray.extract_append_eq_right (by rw [strOfNums_size]; rfl) (by rw [ByteArray.size_append])
  generalize strOfNums [v / 256 + 64, v % 256] ++ a = s at *
  have hq : bt s 0 / 64 = 1 := by rw [b0]; omega
  have hm : bt s 0 % 64 = v / 256 := by rw [b0]; omega
  unfold pack_TakeNum.f
  rw [if_neg (by rw [toList_nil]; omega), if_pos (by omega), if_pos (by omega), hq, (by decide +kernel : shl .i64 1 1 = 2), if_neg (by omega), and63, hm]
  rw [take_step (k + 2) s 2 (v / 256) 1 (v % 256) (v) (by omega) (by omega) (by omega) b1 (by omega) (by omega) (by omega) (by omega) (by omega)]
  rw [(by omega : (1 : Int) + 1 = 2)]
  rw [pack_TakeNum.l0, if_neg (by omega), size_f (by unfold inU64; omega), Option.bind_some, if_pos hz, if_pos (by omega), if_pos (by omega)]
  rw [(by rfl : ((2 : Int)).toNat = 2), he]
theorem back4 {v : Int} (a : ByteArray) (k : Nat) (h0 : 16384 ≤ v) (h1 : v < 1073741824) : pack_TakeNum.f (k + 5) (strOfNums (numL v) ++ a) = some (v, a, 0) := by
  have hL : numL v = [v / 16777216 + 128, v / 65536 % 256, v / 256 % 256, v % 256] := by
    unfold numL; rw [if_neg (by omega), if_neg (by omega), if_pos h1, num4_eq h0 h1]
  have hz : sizeI v = 4 := by have := sizeI_cases v; omega
  rw [hL]
  have hb := bt_nums [v / 16777216 + 128, v / 65536 % 256, v / 256 % 256, v % 256] a
  have b0 : bt (strOfNums [v / 16777216 + 128, v / 65536 % 256, v / 256 % 256, v % 256] ++ a) 0 = v / 16777216 + 128 := hb 0 (by show 0 < (_ : Nat); simp only [List.length_cons, List.length_nil]; omega) (by show 0 ≤ v / 16777216 + 128 ∧ v / 16777216 + 128 ≤ 255; omega)
  have b1 : bt (strOfNums [v / 16777216 + 128, v / 65536 % 256, v / 256 % 256, v % 256] ++ a) 1 = v / 65536 % 256 := hb 1 (by show 1 < (_ : Nat); simp only [List.length_cons, List.length_nil]; omega) (by show 0 ≤ v / 65536 % 256 ∧ v / 65536 % 256 ≤ 255; omega)
  have b2 : bt (strOfNums [v / 16777216 + 128, v / 65536 % 256, v / 256 % 256, v % 256] ++ a) 2 = v / 256 % 256 := hb 2 (by show 2 < (_ : Nat); simp only [List.length_cons, List.length_nil]; omega) (by show 0 ≤ v / 256 % 256 ∧ v / 256 % 256 ≤ 255; omega)
  have b3 : bt (strOfNums [v / 16777216 + 128, v / 65536 % 256, v / 256 % 256, v % 256] ++ a) 3 = v % 256 := hb 3 (by show 3 < (_ : Nat); simp only [List.length_cons, List.length_nil]; omega) (by show 0 ≤ v % 256 ∧ v % 256 ≤ 255; omega)
  have hs : ((strOfNums [v / 16777216 + 128, v / 65536 % 256, v / 256 % 256, v % 256] ++ a).size : Int) = 4 + a.size := by rw [ByteArray.size_append, strOfNums_size]; show ((4 + a.size : Nat) : Int) = _; omega
  have he : (strOfNums [v / 16777216 + 128, v / 65536 % 256, v / 256 % 256, v % 256] ++ a).extract 4 (strOfNums [v / 16777216 + 128, v / 65536 % 256, v / 256 % 256, v % 256] ++ a).size = a := ByteArray.extract_append_eq_right (by rw [strOfNums_size]; rfl) (by rw [ByteArray.size_append])
  generalize strOfNums [v / 16777216 + 128, v / 65536 % 256, v / 256 % 256, v % 256] ++ a = s at *
  have hq : bt s 0 / 64 = 2 := by rw [b0]; omega
  have hm : bt s 0 % 64 = v / 16777216 := by rw [b0]; omega
  unfold pack_TakeNum.f
  rw [if_neg (by rw [toList_nil]; omega), if_pos (by omega), if_pos (by omega), hq, (by decide +kernel : shl .i64 1 2 = 4), if_neg (by omega), and63, hm]
  rw [take_step (k + 4) s 4 (v / 16777216) 1 (v / 65536 % 256) (v / 65536) (by omega) (by omega) (by omega) b1 (by omega) (by omega) (by omega) (by omega) (by omega)]
  rw [(by omega : (1 : Int) + 1 = 2)]
  rw [take_step (k + 3) s 4 (v / 65536) 2 (v / 256 % 256) (v / 256) (by omega) (by omega) (by omega) b2 (by omega) (by omega) (by omega) (by omega) (by omega)]
  rw [(by omega : (2 : Int) + 1 = 3)]
  rw [take_step (k + 2) s 4 (v / 256) 3 (v % 256) (v) (by omega) (by omega) (by omega) b3 (by omega) (by omega) (by omega) (by omega) (by omega)]
  rw [(by omega : (3 : Int) + 1 = 4)]
  rw [pack_TakeNum.l0, if_neg (by omega), size_f (by unfold inU64; omega), Option.bind_some, if_pos hz, if_pos (by omega), if_pos (by omega)]
  rw [(by rfl : ((4 : Int)).toNat = 4), he]
theorem back8 {v : Int} (a : ByteArray) (k : Nat) (h0 : 1073741824 ≤ v) (h1 : v < 4611686018427387904) : pack_TakeNum.f (k + 9) (strOfNums (numL v) ++ a) = some (v, a, 0) := by
  have hL : numL v = [v / 72057594037927936 + 192, v / 281474976710656 % 256, v / 1099511627776 % 256, v / 4294967296 % 256, v / 16777216 % 256, v / 65536 % 256, v / 256 % 256, v % 256] := by
    unfold numL; rw [if_neg (by omega), if_neg (by omega), if_neg (by omega), if_pos h1, num8_eq h0 h1]
  have hz : sizeI v = 8 := by have := sizeI_cases v; omega
  rw [hL]
  have hb := bt_nums [v / 72057594037927936 + 192, v / 281474976710656 % 256, v / 1099511627776 % 256, v / 4294967296 % 256, v / 16777216 % 256, v / 65536 % 256, v / 256 % 256, v % 256] a
  have b0 : bt (strOfNums [v / 72057594037927936 + 192, v / 281474976710656 % 256, v / 1099511627776 % 256, v / 4294967296 % 256, v / 16777216 % 256, v / 65536 % 256, v / 256 % 256, v % 256] ++ a) 0 = v / 72057594037927936 + 192 := hb 0 (by show 0 < (_ : Nat); simp only [List.length_cons, List.length_nil]; omega) (by show 0 ≤ v / 72057594037927936 + 192 ∧ v / 72057594037927936 + 192 ≤ 255; omega)
  have b1 : bt (strOfNums [v / 72057594037927936 + 192, v / 281474976710656 % 256, v / 1099511627776 % 256, v / 4294967296 % 256, v / 16777216 % 256, v / 65536 % 256, v / 256 % 256, v % 256] ++ a) 1 = v / 281474976710656 % 256 := hb 1 (by show 1 < (_ : Nat); simp only [List.length_cons, List.length_nil]; omega) (by show 0 ≤ v / 281474976710656 % 256 ∧ v / 281474976710656 % 256 ≤ 255; omega)
  have b2 : bt (strOfNums [v / 72057594037927936 + 192, v / 281474976710656 % 256, v / 1099511627776 % 256, v / 4294967296 % 256, v / 16777216 % 256, v / 65536 % 256, v / 256 % 256, v % 256] ++ a) 2 = v / 1099511627776 % 256 := hb 2 (by show 2 < (_ : Nat); simp only [List.length_cons, List.length_nil]; omega) (by show 0 ≤ v / 1099511627776 % 256 ∧ v / 1099511627776 % 256 ≤ 255; omega)
  have b3 : bt (strOfNums [v / 72057594037927936 + 192, v / 281474976710656 % 256, v / 1099511627776 % 256, v / 4294967296 % 256, v / 16777216 % 256, v / 65536 % 256, v / 256 % 256, v % 256] ++ a) 3 = v / 4294967296 % 256 := hb 3 (by show 3 < (_ : Nat); simp only [List.length_cons, List.length_nil]; omega) (by show 0 ≤ v / 4294967296 % 256 ∧ v / 4294967296 % 256 ≤ 255; omega)
  have b4 : bt (strOfNums [v / 72057594037927936 + 192, v / 281474976710656 % 256, v / 1099511627776 % 256, v / 4294967296 % 256, v / 16777216 % 256, v / 65536 % 256, v / 256 % 256, v % 256] ++ a) 4 = v / 16777216 % 256 := hb 4 (by show 4 < (_ : Nat); simp only [List.length_cons, List.length_nil]; omega) (by show 0 ≤ v / 16777216 % 256 ∧ v / 16777216 % 256 ≤ 255; omega)
  have b5 : bt (strOfNums [v / 72057594037927936 + 192, v / 281474976710656 % 256, v / 1099511627776 % 256, v / 4294967296 % 256, v / 16777216 % 256, v / 65536 % 256, v / 256 % 256, v % 256] ++ a) 5 = v / 65536 % 256 := hb 5 (by show 5 < (_ : Nat); simp only [List.length_cons, List.length_nil]; omega) (by show 0 ≤ v / 65536 % 256 ∧ v / 65536 % 256 ≤ 255; omega)
  have b6 : bt (strOfNums [v / 72057594037927936 + 192, v / 281474976710656 % 256, v / 1099511627776 % 256, v / 4294967296 % 256, v / 16777216 % 256, v / 65536 % 256, v / 256 % 256, v % 256] ++ a) 6 = v / 256 % 256 := hb 6 (by show 6 < (_ : Nat); simp only [List.length_cons, List.length_nil]; omega) (by show 0 ≤ v / 256 % 256 ∧ v / 256 % 256 ≤ 255; omega)
  have b7 : bt (strOfNums [v / 72057594037927936 + 192, v / 281474976710656 % 256, v / 1099511627776 % 256, v / 4294967296 % 256, v / 16777216 % 256, v / 65536 % 256, v / 256 % 256, v % 256] ++ a) 7 = v % 256 := hb 7 (by show 7 < (_ : Nat); simp only [List.length_cons, List.length_nil]; omega) (by show 0 ≤ v % 256 ∧ v % 256 ≤ 255; omega)
  have hs : ((strOfNums [v / 72057594037927936 + 192, v / 281474976710656 % 256, v / 1099511627776 % 256, v / 4294967296 % 256, v / 16777216 % 256, v / 65536 % 256, v / 256 % 256, v % 256] ++ a).size : Int) = 8 + a.size := by rw [ByteArray.size_append, strOfNums_size]; show ((8 + a.size : Nat) : Int) = _; omega
  have he : (strOfNums [v / 72057594037927936 + 192, v / 281474976710656 % 256, v / 1099511627776 % 256, v / 4294967296 % 256, v / 16777216 % 256, v / 65536 % 256, v / 256 % 256, v % 256] ++ a).extract 8 (strOfNums [v / 72057594037927936 + 192, v / 281474976710656 % 256, v / 1099511627776 % 256, v / 4294967296 % 256, v / 16777216 % 256, v / 65536 % 256, v / 256 % 256, v % 256] ++ a).size = a := ByteArray.extract_append_eq_right (by rw [strOfNums_size]; rfl) (by rw [ByteArray.size_append])
  generalize strOfNums [v / 72057594037927936 + 192, v / 281474976710656 % 256, v / 1099511627776 % 256, v / 4294967296 % 256, v / 16777216 % 256, v / 65536 % 256, v / 256 % 256, v % 256] ++ a = s at *
  have hq : bt s 0 / 64 = 3 := by rw [b0]; omega
  have hm : bt s 0 % 64 = v / 72057594037927936 := by rw [b0]; omega
  unfold pack_TakeNum.f
  rw [if_neg (by rw [toList_nil]; omega), if_pos (by omega), if_pos (by omega), hq, (by decide +kernel : shl .i64 1 3 = 8), if_neg (by omega), and63, hm]
  rw [take_step (k + 8) s 8 (v / 72057594037927936) 1 (v / 281474976710656 % 256) (v / 281474976710656) (by omega) (by omega) (by omega) b1 (by omega) (by omega) (by omega) (by omega) (by omega)]
  rw [(by omega : (1 : Int) + 1 = 2)]
  rw [take_step (k + 7) s 8 (v / 281474976710656) 2 (v / 1099511627776 % 256) (v / 1099511627776) (by omega) (by omega) (by omega) b2 (by omega) (by omega) (by omega) (by omega) (by omega)]
  rw [(by omega : (2 : Int) + 1 = 3)]
  rw [take_step (k + 6) s 8 (v / 1099511627776) 3 (v / 4294967296 % 256) (v / 4294967296) (by omega) (by omega) (by omega) b3 (by omega) (by omega) (by omega) (by omega) (by omega)]
  rw [(by omega : (3 : Int) + 1 = 4)]
  rw [take_step (k + 5) s 8 (v / 4294967296) 4 (v / 16777216 % 256) (v / 16777216) (by omega) (by omega) (by omega) b4 (by omega) (by omega) (by omega) (by omega) (by omega)]
  rw [(by omega : (4 : Int) + 1 = 5)]
  rw [take_step (k + 4) s 8 (v / 16777216) 5 (v / 65536 % 256) (v / 65536) (by omega) (by omega) (by omega) b5 (by omega) (by omega) (by omega) (by omega) (by omega)]
  rw [(by omega : (5 : Int) + 1 = 6)]
  rw [take_step (k + 3) s 8 (v / 65536) 6 (v / 256 % 256) (v / 256) (by omega) (by omega) (by omega) b6 (by omega) (by omega) (by omega) (by omega) (by omega)]
  rw [(by omega : (6 : Int) + 1 = 7)]
  rw [take_step (k + 2) s 8 (v / 256) 7 (v % 256) (v) (by omega) (by omega) (by omega) b7 (by omega) (by omega) (by omega) (by omega) (by omega)]
  rw [(by omega : (7 : Int) + 1 = 8)]
  rw [pack_TakeNum.l0, if_neg (by omega), size_f (by unfold inU64; omega), Option.bind_some, if_pos hz, if_pos (by omega), if_pos (by omega)]
  rw [(by rfl : ((8 : Int)).toNat = 8), he]
theorem take_back {v : Int} (a : ByteArray) (hv : 0 ≤ v) (h1 : v < 4611686018427387904) : pack_TakeNum.f 20 (strOfNums (numL v) ++ a) = some (v, a, 0) := by
  by_cases c1 : v < 64
  · exact back1 a 18 hv c1
  · by_cases c2 : v < 16384
    · exact back2 a 17 (by omega) c2
    · by_cases c3 : v < 1073741824
      · exact back4 a 15 (by omega) c3
      · exact back8 a 11 (by omega) h1
end Go.Proofs.Ytfjhlcbpogihmaa.Pr
