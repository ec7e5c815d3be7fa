/- The pure statement of the law PackOrder, proved. Conditions: none. -/
import Derived.Test.YtajphdkolpkloaaDefPackOrder
import Derived.Test.YtajphdkolpkloaaPackT
namespace Go.Proofs.Ytajphdkolpkloaa.Pure
open Go.RowKit Go.Proofs.Ytajphdkolpkloaa.Pr Go.Proofs.YtajphdkolpkloaaW.PrintWords Go.Proofs.YtajphdkolpkloaaW.PrintLast Go.Proofs.YtajphdkolpkloaaW.PrintMore
theorem shown_true : ferrulelaw01_shown.f 20 = some true := by decide +kernel
theorem lowB_get : ∀ (d : Nat) (x : Int) (j : Nat), j < d → (lowB d x)[j]? = some (x / 256 ^ (d - 1 - j) % 256)
  | 0, _, _, h => by omega
  | d + 1, x, j, h => by
    simp only [lowB]
    by_cases hj : j < d
    · rw [List.getElem?_append_left (by rw [lowB_length]; exact hj), lowB_get d (x / 256) j hj]
      congr 2
      rw [Int.ediv_ediv_of_nonneg (by omega : (0 : Int) ≤ 256)]
      congr 1
      rw [(by omega : d + 1 - 1 - j = (d - 1 - j) + 1), Int.pow_succ, Int.mul_comm]
    · have hjd : j = d := by omega
      subst hjd
      rw [List.getElem?_append_right (by rw [lowB_length]; omega), lowB_length]
      simp
theorem bt_low (d : Nat) (x : Int) (j : Nat) (h : j < d) : bt (strOfNums (lowB d x)) (j : Int) = x / 256 ^ (d - 1 - j) % 256 := by
  have hl : j < (lowB d x).length := by rw [lowB_length]; exact h
  have hg := lowB_get d x j h
  rw [List.getElem?_eq_getElem hl] at hg
  have he : (lowB d x)[j] = x / 256 ^ (d - 1 - j) % 256 := Option.some.inj hg
  have := bt_nums (lowB d x) (⟨#[]⟩ : ByteArray) j hl (by rw [he]; omega)
  rw [ba_nil, he] at this
  exact this
theorem low_size (d : Nat) (x : Int) : (strOfNums (lowB d x)).size = d := by rw [strOfNums_size, lowB_length]
theorem order_loop (d : Nat) (hd : d ≤ 8) (x y v w : Int) (hxy : x - y = v - w) : ∀ (m k i : Nat), i + m = d → x / 256 ^ m = y / 256 ^ m →
    ferrulelaw01_PackOrder.l0 (k + m + 1) v w true (strOfNums (lowB d x)) (strOfNums (lowB d y)) (i : Int) = some true
  | 0, k, i, hi, he => by
    show ferrulelaw01_PackOrder.l0 (k + 1) v w true _ _ _ = _
    rw [ferrulelaw01_PackOrder.l0, low_size, low_size, if_neg (by omega), if_pos rfl]
    have h0 : x = y := by simpa using he
    have hvw : v = w := by omega
    subst hvw
    simp
  | m + 1, k, i, hi, he => by
    show ferrulelaw01_PackOrder.l0 ((k + m + 1) + 1) v w true _ _ _ = _
    rw [ferrulelaw01_PackOrder.l0, low_size, low_size, if_pos (by omega), if_pos (by omega), if_pos (by omega), if_pos rfl]
    rw [bt_low d x i (by omega), bt_low d y i (by omega), (by omega : d - 1 - i = m)]
    have hp : (0 : Int) < 256 ^ m := Int.pow_pos (by omega)
    rw [Int.pow_succ, ← Int.ediv_ediv_of_nonneg (by omega), ← Int.ediv_ediv_of_nonneg (by omega)] at he
    have hgt : ∀ a b : Int, a / 256 ^ m < b / 256 ^ m → a < b := fun a b h => by
      by_cases hab : a < b
      · exact hab
      · have := Int.ediv_le_ediv hp (by omega : b ≤ a)
        omega
    have h1 := hgt x y
    have h2 := hgt y x
    by_cases hb : x / 256 ^ m % 256 = y / 256 ^ m % 256
    · rw [if_pos hb, wrap64_in (by omega) (by omega)]
      exact order_loop d hd x y v w hxy m k (i + 1) (by omega) (by omega)
    · rw [if_neg hb]
      by_cases hlt : x / 256 ^ m % 256 < y / 256 ^ m % 256
      · have : x < y := h1 (by omega)
        rw [decide_eq_true hlt, decide_eq_true (by omega : v < w)]
        rfl
      · have : y < x := h2 (by omega)
        rw [decide_eq_false hlt, decide_eq_false (by omega : ¬ v < w)]
        rfl
theorem order_same (d : Nat) (hd : d ≤ 8) (t v w : Int) (hv : numL v = lowB d (v + t)) (hw : numL w = lowB d (w + t)) (hx : (v + t) / 256 ^ d = (w + t) / 256 ^ d) : ferrulelaw01_PackOrder.l0 19 v w true (strOfNums (numL v)) (strOfNums (numL w)) 0 = some true := by
  rw [hv, hw]
  have h19 : ∀ a b, ferrulelaw01_PackOrder.l0 19 v w true a b 0 = ferrulelaw01_PackOrder.l0 ((18 - d) + d + 1) v w true a b ((0 : Nat) : Int) := fun a b => by congr 1; omega
  rw [h19]
  exact order_loop d hd _ _ v w (by omega) d (18 - d) 0 (by omega) hx
theorem PackOrder : ferrulelaw01_PackOrder.Pure := by
  intro v w hv hw
  have hi := inU64_wf hv
  have hj := inU64_wf hw
  obtain ⟨hv0, hv1⟩ := id hi
  obtain ⟨hw0, hw1⟩ := id hj
  refine ⟨20, ?_⟩
  unfold ferrulelaw01_PackOrder.f
  rw [shown_true, num_f hi, num_f hj]
  simp only [Option.bind_some]
  unfold numE
  have hj0 : ∀ k s t, ferrulelaw01_PackOrder.j0 (k + 1) v w true s t true = some true := fun k s t => by rw [ferrulelaw01_PackOrder.j0, if_pos rfl]
  by_cases hc : v < 4611686018427387904
  · rw [if_pos hc, if_pos rfl]
    by_cases hd : w < 4611686018427387904
    · rw [if_pos hd]
      show ferrulelaw01_PackOrder.j0 20 v w true _ _ false = _
      rw [ferrulelaw01_PackOrder.j0, if_neg (by decide), size_num, size_num]
      by_cases hs : sizeI v = sizeI w
      · rw [if_pos hs]
        rcases sizeI_cases v with ⟨h1, h2⟩ | ⟨h0, h1, h2⟩ | ⟨h0, h1, h2⟩ | ⟨h0, h1, h2⟩ | ⟨h0, h2⟩
        · have hwz : w < 64 := by have := sizeI_cases w; omega
          exact order_same 1 (by omega) 0 v w (by rw [Int.add_zero]; exact numL_1 hv0 h1) (by rw [Int.add_zero]; exact numL_1 hw0 hwz) (by omega)
        · have hwz : 64 ≤ w ∧ w < 16384 := by have := sizeI_cases w; omega
          exact order_same 2 (by omega) 16384 v w (numL_2 h0 h1) (numL_2 hwz.1 hwz.2) (by omega)
        · have hwz : 16384 ≤ w ∧ w < 1073741824 := by have := sizeI_cases w; omega
          exact order_same 4 (by omega) 2147483648 v w (numL_4 h0 h1) (numL_4 hwz.1 hwz.2) (by omega)
        · have hwz : 1073741824 ≤ w ∧ w < 4611686018427387904 := by have := sizeI_cases w; omega
          exact order_same 8 (by omega) 13835058055282163712 v w (numL_8 h0 h1) (numL_8 hwz.1 hwz.2) (by omega)
        · omega
      · rw [if_neg hs, if_pos rfl]
        have h1 := sizeI_cases v
        have h2 := sizeI_cases w
        by_cases hlt : sizeI v < sizeI w
        · rw [decide_eq_true hlt, decide_eq_true (by omega : v < w)]
          rfl
        · rw [decide_eq_false hlt, decide_eq_false (by omega : ¬ v < w)]
          rfl
    · rw [if_neg hd]
      exact hj0 19 _ _
  · rw [if_neg hc, if_neg (by omega)]
    exact hj0 19 _ _
end Go.Proofs.Ytajphdkolpkloaa.Pure
