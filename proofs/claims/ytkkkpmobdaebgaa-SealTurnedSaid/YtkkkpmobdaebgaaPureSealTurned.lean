/- A sealed text of which one byte of the text or of the sum is another one is refused: proved of the printed function. Conditions: none. -/
import Derived.Test.YtkkkpmobdaebgaaDefSealTurned
import Derived.Test.YtkkkpmobdaebgaaSealT
import Derived.Laws.BitsAllLaws
namespace Go.Proofs.Ytkkkpmobdaebgaa.Pr
open Go.RowKit Go.Proofs.YtkkkpmobdaebgaaW.PrintWords Go.Proofs.YtkkkpmobdaebgaaW.PrintLast Go.Proofs.YtkkkpmobdaebgaaW.PrintMore
set_option linter.unusedVariables false
set_option linter.unusedSimpArgs false
/-- The list of a text. -/
def lst (b : ByteArray) : List UInt8 := b.data.toList
theorem lst_ext {a b : ByteArray} (h : lst a = lst b) : a = b := by
  ext1
  exact Array.toList_inj.mp h
theorem lst_size (a : ByteArray) : (lst a).length = a.size := by
  unfold lst
  rw [Array.length_toList]
  rfl
theorem lst_app (a b : ByteArray) : lst (a ++ b) = lst a ++ lst b := by
  unfold lst
  rw [ByteArray.data_append, Array.toList_append]
theorem lst_setB (b : ByteArray) (i : Nat) (v : UInt8) : lst (setB b i v) = (lst b).set i v := by
  unfold setB lst
  rfl
theorem setB_size (b : ByteArray) (i : Nat) (v : UInt8) : (setB b i v).size = b.size := by
  rw [← lst_size, lst_setB, List.length_set, lst_size]
theorem setB_right (a b : ByteArray) (i : Nat) (v : UInt8) : setB (a ++ b) (a.size + i) v = a ++ setB b i v := by
  apply lst_ext
  rw [lst_setB, lst_app, lst_app, lst_setB, List.set_append_right _ _ (by rw [lst_size]; omega), lst_size]
  rw [show a.size + i - a.size = i from by omega]
theorem setB_left (a b : ByteArray) (i : Nat) (v : UInt8) (h : i < a.size) : setB (a ++ b) i v = setB a i v ++ b := by
  apply lst_ext
  rw [lst_setB, lst_app, lst_app, lst_setB, List.set_append_left _ _ (by rw [lst_size]; omega)]
theorem bt_lst (s : ByteArray) (i : Nat) (h : i < s.size) : bt s (i : Int) = (((lst s).getD i 0).toNat : Int) := by
  unfold bt
  rw [Int.toNat_natCast, dif_pos h]
  have h2 : i < (lst s).length := by rw [lst_size]; exact h
  rw [List.getD_eq_getElem?_getD, List.getElem?_eq_getElem h2, Option.getD_some]
  rfl
theorem bt_out (s : ByteArray) (i : Nat) (h : ¬ i < s.size) : bt s (i : Int) = 0 := by
  unfold bt
  rw [Int.toNat_natCast, dif_neg h]
theorem bt_set_ne (s : ByteArray) (j : Nat) (v : UInt8) (i : Nat) (h : i ≠ j) : bt (setB s j v) (i : Int) = bt s (i : Int) := by
  by_cases hi : i < s.size
  · rw [bt_lst _ _ (by rw [setB_size]; exact hi), bt_lst _ _ hi, lst_setB, List.getD_eq_getElem?_getD, List.getElem?_set_ne (Ne.symm h), List.getD_eq_getElem?_getD]
  · rw [bt_out _ _ (by rw [setB_size]; exact hi), bt_out _ _ hi]
theorem bt_set_eq (s : ByteArray) (j : Nat) (v : UInt8) (h : j < s.size) : bt (setB s j v) (j : Int) = (v.toNat : Int) := by
  rw [bt_lst _ _ (by rw [setB_size]; exact h), lst_setB, List.getD_eq_getElem?_getD, List.getElem?_set_self (by rw [lst_size]; exact h), Option.getD_some]
theorem half_ahead (s : ByteArray) (j : Nat) (v : UInt8) : ∀ n, n ≤ j → half (setB s j v) n = half s n
  | 0, _ => rfl
  | n + 1, h => by
    have ih := half_ahead s j v n (by omega)
    simp only [half]
    rw [ih, bt_set_ne s j v n (by omega)]
theorem half_apart (s : ByteArray) (j : Nat) (v : UInt8) (hj : j < s.size) : ∀ n, j < n → ∃ q : Int, (half (setB s j v) n).1 - (half s n).1 = (v.toNat : Int) - bt s (j : Int) + 65521 * q
  | 0, h => absurd h (by omega)
  | n + 1, h => by
    by_cases he : n = j
    · subst he
      simp only [half]
      rw [half_ahead s n v n (Nat.le_refl _), bt_set_eq s n v hj]
      exact ⟨((half s n).1 + bt s n) / 65521 - ((half s n).1 + v.toNat) / 65521, by omega⟩
    · obtain ⟨q, hq⟩ := half_apart s j v hj n (by omega)
      simp only [half]
      rw [bt_set_ne s j v n he]
      exact ⟨q + ((half s n).1 + bt s n) / 65521 - ((half (setB s j v) n).1 + bt s n) / 65521, by omega⟩
theorem sum_apart (s : ByteArray) (j : Nat) (v : UInt8) (hj : j < s.size) (hv : (v.toNat : Int) ≠ bt s (j : Int)) : sumI (setB s j v) ≠ sumI s := by
  intro he
  obtain ⟨q, hq⟩ := half_apart s j v hj s.size hj
  unfold sumI at he
  rw [setB_size] at he
  have h1 := half_range s s.size
  have h2 := half_range (setB s j v) s.size
  have h3 := bt_range s (j : Int)
  have h4 : v.toNat < 256 := v.toNat_lt
  omega
theorem byte_inj {a b : Int} (ha : 0 ≤ a ∧ a < 256) (hb : 0 ≤ b ∧ b < 256) (h : UInt8.ofNat a.toNat = UInt8.ofNat b.toNat) : a = b := by
  have := congrArg UInt8.toNat h
  rw [UInt8.toNat_ofNat', UInt8.toNat_ofNat'] at this
  omega
theorem tailB_inj {a b : Int} (ha : 0 ≤ a ∧ a < 4294967296) (hb : 0 ≤ b ∧ b < 4294967296) (h : tailB a = tailB b) : a = b := by
  have h2 := congrArg lst h
  unfold tailB strOfNums lst at h2
  simp only [List.map, List.cons.injEq] at h2
  obtain ⟨e1, e2, e3, e4, _⟩ := h2
  have e1 := byte_inj (by omega) (by omega) e1
  have e2 := byte_inj (by omega) (by omega) e2
  have e3 := byte_inj (by omega) (by omega) e3
  have e4 := byte_inj (by omega) (by omega) e4
  omega
theorem toList_inj' {a b : ByteArray} (h : a.toList = b.toList) : a = b := by
  rw [Go.ByteArray.toList_eq, Go.ByteArray.toList_eq] at h
  exact lst_ext h
def sealB (s : ByteArray) : ByteArray := headB s ++ tailB (sumI (headB s))
theorem sealB_size (s : ByteArray) : ((sealB s).size : Int) = sizeI (s.size : Int) + s.size + 4 := by
  unfold sealB
  rw [ByteArray.size_append]
  have := headB_size s
  have := tailB_size (sumI (headB s))
  omega
theorem sealB_split (s : ByteArray) : sealB s = strOfNums (numL (s.size : Int)) ++ (s ++ tailB (sumI (headB s))) := by
  unfold sealB headB
  rw [ba_assoc]
/-- A byte turned: it is refused. -/
theorem take_turned (s : ByteArray) (hs : s.size ≤ 65536) (i : Nat) (hi : i < s.size + 4) (v : UInt8) (hv : (v.toNat : Int) ≠ bt (s ++ tailB (sumI (headB s))) (i : Int)) :
    seal_Take.f 20 (strOfNums (numL (s.size : Int)) ++ setB (s ++ tailB (sumI (headB s))) i v) = some ((⟨#[]⟩ : ByteArray), (⟨#[]⟩ : ByteArray), 3) := by
  have hh := size_num (s.size : Int)
  have hz := sizeI_cases (s.size : Int)
  have hhd : headB s = strOfNums (numL (s.size : Int)) ++ s := rfl
  obtain ⟨hd, hd_⟩ : ∃ hd, strOfNums (numL (s.size : Int)) = hd := ⟨_, rfl⟩
  have hback : ∀ x, pack_TakeNum.f 20 (hd ++ x) = some ((s.size : Int), x, 0) := fun x => by rw [← hd_]; exact take_back _ (by omega) (by omega)
  rw [hd_] at hhd hh ⊢
  rw [hhd] at hv ⊢
  obtain ⟨t, ht⟩ : ∃ t, tailB (sumI (hd ++ s)) = t := ⟨_, rfl⟩
  have htz : t.size = 4 := by rw [← ht]; exact tailB_size _
  rw [ht] at hv ⊢
  have hxz : (setB (s ++ t) i v).size = s.size + 4 := by rw [setB_size, ByteArray.size_append, htz]
  rw [stake 20 hd _ s.size (hback _) hs (by rw [ByteArray.size_append]; omega), if_neg (by omega)]
  by_cases hc : i < s.size
  · have e := setB_left s t i v hc
    have hsz := setB_size s i v
    have e1 : (setB (s ++ t) i v).extract 0 s.size = setB s i v := by rw [e, ← hsz]; exact ByteArray.extract_append_eq_left rfl
    have e2 : (setB (s ++ t) i v).extract s.size (s.size + 4) = t := by
      rw [e]
      exact ByteArray.extract_append_eq_right hsz.symm (by omega)
    rw [e1, e2, if_neg]
    intro h
    have h := toList_inj' h
    rw [← ht, ← setB_right] at h
    have h := tailB_inj (sumI_range _) (sumI_range _) h
    refine sum_apart (hd ++ s) (hd.size + i) v (by rw [ByteArray.size_append]; omega) ?_ h
    rw [bt_lst _ _ (by rw [ByteArray.size_append]; omega), lst_app]
    rw [bt_lst _ _ (by rw [ByteArray.size_append]; omega), lst_app] at hv
    rw [List.getD_eq_getElem?_getD, List.getElem?_append_right (by rw [lst_size]; omega), lst_size, show hd.size + i - hd.size = i from by omega]
    rwa [List.getD_eq_getElem?_getD, List.getElem?_append_left (by rw [lst_size]; omega)] at hv
  · obtain ⟨j, rfl⟩ : ∃ j, i = s.size + j := ⟨i - s.size, by omega⟩
    have e := setB_right s t j v
    have hsz := setB_size t j v
    have e1 : (setB (s ++ t) (s.size + j) v).extract 0 s.size = s := by rw [e]; exact ByteArray.extract_append_eq_left rfl
    have e2 : (setB (s ++ t) (s.size + j) v).extract s.size (s.size + 4) = setB t j v := by
      rw [e]
      exact ByteArray.extract_append_eq_right rfl (by omega)
    rw [e1, e2, ht, if_neg]
    intro h
    have h := toList_inj' h
    apply hv
    rw [bt_lst _ _ (by rw [ByteArray.size_append]; omega), lst_app, List.getD_eq_getElem?_getD, List.getElem?_append_right (by rw [lst_size]; omega), lst_size, show s.size + j - s.size = j from by omega, h, lst_setB,
      List.getElem?_set_self (by rw [lst_size]; omega), Option.getD_some]
theorem turnV_range (b : ByteArray) (i : Nat) (by_ : Int) : 0 ≤ turnV b i by_ ∧ turnV b i by_ < 256 := by
  have h : ((b.data.toList.getD i 0).toNat) < 256 := (b.data.toList.getD i 0).toNat_lt
  unfold turnV
  obtain ⟨y, hy⟩ : ∃ y : Nat, by_ % 256 = (y : Int) := ⟨(by_ % 256).toNat, by omega⟩
  have hw : IntKind.u8.wrap by_ = (y : Int) := hy
  rw [hw, u8_xor_nat _ _ h (by omega)]
  have := Nat.xor_lt_two_pow (n := 8) h (show y < 2 ^ 8 by omega)
  omega
theorem turnV_ne (b : ByteArray) (i : Nat) (by_ : Int) (hb : by_ % 256 ≠ 0) : turnV b i by_ ≠ ((b.data.toList.getD i 0).toNat : Int) := by
  have h : ((b.data.toList.getD i 0).toNat) < 256 := (b.data.toList.getD i 0).toNat_lt
  unfold turnV
  obtain ⟨y, hy⟩ : ∃ y : Nat, by_ % 256 = (y : Int) := ⟨(by_ % 256).toNat, by omega⟩
  have hw : IntKind.u8.wrap by_ = (y : Int) := hy
  rw [hw, u8_xor_nat _ _ h (by omega)]
  intro he
  have he : (b.data.toList.getD i 0).toNat ^^^ y = (b.data.toList.getD i 0).toNat := by omega
  have h2 := congrArg (fun n => (b.data.toList.getD i 0).toNat ^^^ n) he
  simp only [← Nat.xor_assoc, Nat.xor_self, Nat.zero_xor] at h2
  omega
end Go.Proofs.Ytkkkpmobdaebgaa.Pr
namespace Go.Proofs.Ytkkkpmobdaebgaa.Pure
open Go.RowKit Go.Proofs.Ytkkkpmobdaebgaa.Pr Go.Proofs.YtkkkpmobdaebgaaW.PrintWords Go.Proofs.YtkkkpmobdaebgaaW.PrintLast Go.Proofs.YtkkkpmobdaebgaaW.PrintMore
theorem SealTurned : ferrulelaw02_SealTurned.Pure := by
  intro s at_ by_ hs ha hb
  refine ⟨20, ?_⟩
  have ha : -9223372036854775808 ≤ at_ ∧ at_ ≤ 9223372036854775807 := by simpa [Lit.wf, IntKind.min, IntKind.max, IntKind.signed, IntKind.bits] using ha
  clear hb
  unfold ferrulelaw02_SealTurned.f
  rw [shown_true]
  simp only [Option.bind_some]
  by_cases h : s.size ≤ 65536
  rotate_left
  · rw [put_big h]
    simp only [Option.bind_some]
    rw [if_neg (by decide)]
  have hz := sizeI_cases (s.size : Int)
  have hbz := sealB_size s
  have hh := size_num (s.size : Int)
  have hput : seal_Put.f s = some (sealB s, 0) := put_f h
  rw [hput]
  simp only [Option.bind_some, if_true]
  by_cases h0 : at_ < 0
  · rw [if_pos h0]
  rw [if_neg h0]
  by_cases hm : Int.tmod by_ 256 = 0
  · rw [if_pos hm]
  rw [if_neg hm]
  have hm2 : by_ % 256 ≠ 0 := by
    intro he
    exact hm (Int.tmod_eq_zero_of_dvd (Int.dvd_of_emod_eq_zero he))
  obtain ⟨n, hn⟩ : ∃ n : Nat, (strOfNums (numL (s.size : Int))).size = n := ⟨_, rfl⟩
  have e0 : wrap64 (wrap64 (((sealB s).size : Int) - s.size) - 4) = (n : Int) := by
    rw [wrap64_in' (x := ((sealB s).size : Int) - _) (by omega) (by omega), wrap64_in' (by omega) (by omega)]
    omega
  rw [e0, if_neg (by omega), wrap64_in' (x := (s.size : Int) + 4) (by omega) (by omega)]
  by_cases hge : at_ ≥ (s.size : Int) + 4
  · rw [if_pos hge]
  rw [if_neg hge]
  obtain ⟨i, rfl⟩ : ∃ i : Nat, at_ = (i : Int) := ⟨at_.toNat, by omega⟩
  have e1 : wrap64 ((n : Int) + (i : Int)) = ((n + i : Nat) : Int) := by rw [wrap64_in' (by omega) (by omega)]; omega
  rw [e1, Int.toNat_natCast]
  have hr := turnV_range (sealB s) (n + i) by_
  rw [if_pos ⟨by omega, by omega, hr.1, hr.2, by omega⟩]
  have hne := turnV_ne (sealB s) (n + i) by_ hm2
  obtain ⟨v, hv⟩ : ∃ v, turnV (sealB s) (n + i) by_ = v := ⟨_, rfl⟩
  rw [hv] at hr hne ⊢
  have hu : ((UInt8.ofNat v.toNat).toNat : Int) = v := by rw [UInt8.toNat_ofNat']; omega
  have hsp := sealB_split s
  have hset : setB (sealB s) (n + i) (UInt8.ofNat v.toNat) = strOfNums (numL (s.size : Int)) ++ setB (s ++ tailB (sumI (headB s))) i (UInt8.ofNat v.toNat) := by
    rw [hsp, ← hn]; exact setB_right _ _ _ _
  have htz := tailB_size (sumI (headB s))
  rw [hset, take_turned s h i (by omega) _ (by
    rw [hu]
    intro he
    apply hne
    rw [he, bt_lst _ _ (by rw [ByteArray.size_append]; omega)]
    show _ = (((lst (sealB s)).getD (n + i) 0).toNat : Int)
    rw [hsp, lst_app (strOfNums _), List.getD_eq_getElem?_getD, List.getD_eq_getElem?_getD, List.getElem?_append_right (by rw [lst_size]; omega), lst_size, hn, show n + i - n = i from by omega])]
  rfl
end Go.Proofs.Ytkkkpmobdaebgaa.Pure
