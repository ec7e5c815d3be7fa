/- bits.Len64: it tells how many bits a number has. Conditions: none. -/
import Derived.Test.YtfjhlcbpogihmaaGNoteBackPr0
import Derived.Test.YtfjhlcbpogihmaaKNoteBack1
namespace Go.Proofs.Ytfjhlcbpogihmaa.Pr
open Go.RowKit Go.Proofs.YtfjhlcbpogihmaaW.PrintWords Go.Proofs.YtfjhlcbpogihmaaW.PrintLast Go.Proofs.YtfjhlcbpogihmaaW.PrintMore
set_option linter.unusedVariables false
set_option linter.unusedSimpArgs false
/-- How many bits. -/
def bl (n : Nat) : Nat := if n = 0 then 0 else Nat.log2 n + 1
theorem bl_lt {n k : Nat} : bl n ≤ k ↔ n < 2 ^ k := by
  unfold bl
  by_cases h : n = 0
  · subst h; simp; exact Nat.pow_pos (by omega)
  · rw [if_neg h, ← Nat.log2_lt h]; omega
theorem bl_unique {n m : Nat} (h : ∀ k, n < 2 ^ k ↔ m ≤ k) : bl n = m := Nat.le_antisymm (bl_lt.2 ((h m).2 (Nat.le_refl _))) ((h (bl n)).1 (bl_lt.1 (Nat.le_refl _)))
theorem bl_div {n j : Nat} (hj : 2 ^ j ≤ n) : bl n = j + bl (n / 2 ^ j) := by
  refine bl_unique fun k => ?_
  by_cases hk : j ≤ k
  · rw [show j + bl (n / 2 ^ j) ≤ k ↔ bl (n / 2 ^ j) ≤ k - j from by omega, bl_lt, Nat.div_lt_iff_lt_mul (Nat.pow_pos (by omega)), ← Nat.pow_add, Nat.sub_add_cancel hk]
  · have := Nat.pow_le_pow_right (show 2 > 0 by omega) (show k ≤ j by omega)
    exact ⟨fun h => by omega, fun h => by omega⟩
set_option maxRecDepth 100000 in
theorem tab_bl : ∀ i : Fin 256, (((⟨#[0, 1, 2, 2, 3, 3, 3, 3, 4, 4, 4, 4, 4, 4, 4, 4, 5, 5, 5, 5, 5, 5, 5, 5, 5, 5, 5, 5, 5, 5, 5, 5, 6, 6, 6, 6, 6, 6, 6, 6, 6, 6, 6, 6, 6, 6, 6, 6, 6, 6, 6, 6, 6, 6, 6, 6, 6, 6, 6, 6, 6, 6, 6, 6, 7, 7, 7, 7, 7, 7, 7, 7, 7, 7, 7, 7, 7, 7, 7, 7, 7, 7, 7, 7, 7, 7, 7, 7, 7, 7, 7, 7, 7, 7, 7, 7, 7, 7, 7, 7, 7, 7, 7, 7, 7, 7, 7, 7, 7, 7, 7, 7, 7, 7, 7, 7, 7, 7, 7, 7, 7, 7, 7, 7, 7, 7, 7, 7, 8, 8, 8, 8, 8, 8, 8, 8, 8, 8, 8, 8, 8, 8, 8, 8, 8, 8, 8, 8, 8, 8, 8, 8, 8, 8, 8, 8, 8, 8, 8, 8, 8, 8, 8, 8, 8, 8, 8, 8, 8, 8, 8, 8, 8, 8, 8, 8, 8, 8, 8, 8, 8, 8, 8, 8, 8, 8, 8, 8, 8, 8, 8, 8, 8, 8, 8, 8, 8, 8, 8, 8, 8, 8, 8, 8, 8, 8, 8, 8, 8, 8, 8, 8, 8, 8, 8, 8, 8, 8, 8, 8, 8, 8, 8, 8, 8, 8, 8, 8, 8, 8, 8, 8, 8, 8, 8, 8, 8, 8, 8, 8, 8, 8, 8, 8, 8, 8, 8, 8, 8, 8, 8, 8, 8, 8, 8, 8]⟩ : ByteArray)[i.val]'(by have := i.isLt; show i.val < 256; exact this)).toNat) = bl i.val := by decide +kernel
theorem tab_bl' (v : Int) (h0 : 0 ≤ v) (h1 : v < 256) (h : v.toNat < ((⟨#[0, 1, 2, 2, 3, 3, 3, 3, 4, 4, 4, 4, 4, 4, 4, 4, 5, 5, 5, 5, 5, 5, 5, 5, 5, 5, 5, 5, 5, 5, 5, 5, 6, 6, 6, 6, 6, 6, 6, 6, 6, 6, 6, 6, 6, 6, 6, 6, 6, 6, 6, 6, 6, 6, 6, 6, 6, 6, 6, 6, 6, 6, 6, 6, 7, 7, 7, 7, 7, 7, 7, 7, 7, 7, 7, 7, 7, 7, 7, 7, 7, 7, 7, 7, 7, 7, 7, 7, 7, 7, 7, 7, 7, 7, 7, 7, 7, 7, 7, 7, 7, 7, 7, 7, 7, 7, 7, 7, 7, 7, 7, 7, 7, 7, 7, 7, 7, 7, 7, 7, 7, 7, 7, 7, 7, 7, 7, 7, 8, 8, 8, 8, 8, 8, 8, 8, 8, 8, 8, 8, 8, 8, 8, 8, 8, 8, 8, 8, 8, 8, 8, 8, 8, 8, 8, 8, 8, 8, 8, 8, 8, 8, 8, 8, 8, 8, 8, 8, 8, 8, 8, 8, 8, 8, 8, 8, 8, 8, 8, 8, 8, 8, 8, 8, 8, 8, 8, 8, 8, 8, 8, 8, 8, 8, 8, 8, 8, 8, 8, 8, 8, 8, 8, 8, 8, 8, 8, 8, 8, 8, 8, 8, 8, 8, 8, 8, 8, 8, 8, 8, 8, 8, 8, 8, 8, 8, 8, 8, 8, 8, 8, 8, 8, 8, 8, 8, 8, 8, 8, 8, 8, 8, 8, 8, 8, 8, 8, 8, 8, 8, 8, 8, 8, 8, 8, 8]⟩ : ByteArray)).size) : (((⟨#[0, 1, 2, 2, 3, 3, 3, 3, 4, 4, 4, 4, 4, 4, 4, 4, 5, 5, 5, 5, 5, 5, 5, 5, 5, 5, 5, 5, 5, 5, 5, 5, 6, 6, 6, 6, 6, 6, 6, 6, 6, 6, 6, 6, 6, 6, 6, 6, 6, 6, 6, 6, 6, 6, 6, 6, 6, 6, 6, 6, 6, 6, 6, 6, 7, 7, 7, 7, 7, 7, 7, 7, 7, 7, 7, 7, 7, 7, 7, 7, 7, 7, 7, 7, 7, 7, 7, 7, 7, 7, 7, 7, 7, 7, 7, 7, 7, 7, 7, 7, 7, 7, 7, 7, 7, 7, 7, 7, 7, 7, 7, 7, 7, 7, 7, 7, 7, 7, 7, 7, 7, 7, 7, 7, 7, 7, 7, 7, 8, 8, 8, 8, 8, 8, 8, 8, 8, 8, 8, 8, 8, 8, 8, 8, 8, 8, 8, 8, 8, 8, 8, 8, 8, 8, 8, 8, 8, 8, 8, 8, 8, 8, 8, 8, 8, 8, 8, 8, 8, 8, 8, 8, 8, 8, 8, 8, 8, 8, 8, 8, 8, 8, 8, 8, 8, 8, 8, 8, 8, 8, 8, 8, 8, 8, 8, 8, 8, 8, 8, 8, 8, 8, 8, 8, 8, 8, 8, 8, 8, 8, 8, 8, 8, 8, 8, 8, 8, 8, 8, 8, 8, 8, 8, 8, 8, 8, 8, 8, 8, 8, 8, 8, 8, 8, 8, 8, 8, 8, 8, 8, 8, 8, 8, 8, 8, 8, 8, 8, 8, 8, 8, 8, 8, 8, 8, 8]⟩ : ByteArray)[v.toNat]'h).toNat : Int) = (bl v.toNat : Int) := by
  have h2 : v.toNat < 256 := by omega
  exact congrArg (Int.ofNat ·) (tab_bl ⟨v.toNat, h2⟩)
theorem bl_small {v : Int} (h0 : 0 ≤ v) (h1 : v < 256) : (bl v.toNat : Int) ≤ 8 := by have := (bl_lt (n := v.toNat) (k := 8)).2 (by omega); omega
theorem bl_nn (n : Nat) : 0 ≤ (bl n : Int) := by omega
def bits_Len64.f (a0 : Int) : Option Int := some (bl a0.toNat : Int)
theorem ret_i64 {a b : Int} (h : a = b) : Ending.returned (.int .i64 a) = .returned (.int .i64 b) := by rw [h]
set_option maxHeartbeats 8000000 in
set_option maxRecDepth 100000 in
theorem bits_Len64.calls0 (a0 : Int) (h0 : 0 ≤ a0) (h1 : a0 ≤ 18446744073709551615) (w : World) : Calls Try.prog 84 #[.int .u64 a0] w fun e w' => e = .returned (.int .i64 (bl a0.toNat : Int)) ∧ w = w' := by
  by_cases c0 : 4294967296 ≤ a0
  · have b0 := decide_eq_true c0
    by_cases c1 : 65536 ≤ a0 / 4294967296
    · have b1 := decide_eq_true c1
      by_cases c2 : 256 ≤ a0 / 4294967296 / 65536
      · have b2 := decide_eq_true c2
        have hx0 : 0 ≤ a0 / 4294967296 / 65536 / 256 := by omega
        have hx1 : a0 / 4294967296 / 65536 / 256 < 256 := by omega
        have hb := bl_small hx0 hx1
        have ht := tab_bl' (a0 / 4294967296 / 65536 / 256) hx0 hx1 (by show (a0 / 4294967296 / 65536 / 256).toNat < 256; omega)
        have hd : (bl a0.toNat : Int) = 56 + bl (a0 / 4294967296 / 65536 / 256).toNat := by
          have := bl_div (n := a0.toNat) (j := 56) (by omega)
          rw [this, show a0.toNat / 2 ^ 56 = (a0 / 4294967296 / 65536 / 256).toNat from by omega]
          rfl
        have HD := Aside0.mk hd
        clear hd
        have HT := Aside0.mk ht
        have HBS := Aside0.mk hb
        clear ht hb
        go_enter Try.func84, Try.ntmps84
        go_wp2
        go_ret
        refine ⟨ret_i64 ?_, rfl⟩
        rw [HD.out, HT.out]
        have e2 := HBS.out
        have e3 := bl_nn (a0 / 4294967296 / 65536 / 256).toNat
        generalize (bl (a0 / 4294967296 / 65536 / 256).toNat : Int) = z at e2 e3 ⊢
        unfold wrap64
        omega
      · have b2 := decide_eq_false c2
        have hx0 : 0 ≤ a0 / 4294967296 / 65536 := by omega
        have hx1 : a0 / 4294967296 / 65536 < 256 := by omega
        have hb := bl_small hx0 hx1
        have ht := tab_bl' (a0 / 4294967296 / 65536) hx0 hx1 (by show (a0 / 4294967296 / 65536).toNat < 256; omega)
        have hd : (bl a0.toNat : Int) = 48 + bl (a0 / 4294967296 / 65536).toNat := by
          have := bl_div (n := a0.toNat) (j := 48) (by omega)
          rw [this, show a0.toNat / 2 ^ 48 = (a0 / 4294967296 / 65536).toNat from by omega]
          rfl
        have HD := Aside0.mk hd
        clear hd
        have HT := Aside0.mk ht
        have HBS := Aside0.mk hb
        clear ht hb
        go_enter Try.func84, Try.ntmps84
        go_wp2
        go_ret
        refine ⟨ret_i64 ?_, rfl⟩
        rw [HD.out, HT.out]
        have e2 := HBS.out
        have e3 := bl_nn (a0 / 4294967296 / 65536).toNat
        generalize (bl (a0 / 4294967296 / 65536).toNat : Int) = z at e2 e3 ⊢
        unfold wrap64
        omega
    · have b1 := decide_eq_false c1
      by_cases c2 : 256 ≤ a0 / 4294967296
      · have b2 := decide_eq_true c2
        have hx0 : 0 ≤ a0 / 4294967296 / 256 := by omega
        have hx1 : a0 / 4294967296 / 256 < 256 := by omega
        have hb := bl_small hx0 hx1
        have ht := tab_bl' (a0 / 4294967296 / 256) hx0 hx1 (by show (a0 / 4294967296 / 256).toNat < 256; omega)
        have hd : (bl a0.toNat : Int) = 40 + bl (a0 / 4294967296 / 256).toNat := by
          have := bl_div (n := a0.toNat) (j := 40) (by omega)
          rw [this, show a0.toNat / 2 ^ 40 = (a0 / 4294967296 / 256).toNat from by omega]
          rfl
        have HD := Aside0.mk hd
        clear hd
        have HT := Aside0.mk ht
        have HBS := Aside0.mk hb
        clear ht hb
        go_enter Try.func84, Try.ntmps84
        go_wp2
        go_ret
        refine ⟨ret_i64 ?_, rfl⟩
        rw [HD.out, HT.out]
        have e2 := HBS.out
        have e3 := bl_nn (a0 / 4294967296 / 256).toNat
        generalize (bl (a0 / 4294967296 / 256).toNat : Int) = z at e2 e3 ⊢
        unfold wrap64
        omega
      · have b2 := decide_eq_false c2
        have hx0 : 0 ≤ a0 / 4294967296 := by omega
        have hx1 : a0 / 4294967296 < 256 := by omega
        have hb := bl_small hx0 hx1
        have ht := tab_bl' (a0 / 4294967296) hx0 hx1 (by show (a0 / 4294967296).toNat < 256; omega)
        have hd : (bl a0.toNat : Int) = 32 + bl (a0 / 4294967296).toNat := by
          have := bl_div (n := a0.toNat) (j := 32) (by omega)
          rw [this, show a0.toNat / 2 ^ 32 = (a0 / 4294967296).toNat from by omega]
          rfl
        have HD := Aside0.mk hd
        clear hd
        have HT := Aside0.mk ht
        have HBS := Aside0.mk hb
        clear ht hb
        go_enter Try.func84, Try.ntmps84
        go_wp2
        go_ret
        refine ⟨ret_i64 ?_, rfl⟩
        rw [HD.out, HT.out]
        have e2 := HBS.out
        have e3 := bl_nn (a0 / 4294967296).toNat
        generalize (bl (a0 / 4294967296).toNat : Int) = z at e2 e3 ⊢
        unfold wrap64
        omega
  · have b0 := decide_eq_false c0
    by_cases c1 : 65536 ≤ a0
    · have b1 := decide_eq_true c1
      by_cases c2 : 256 ≤ a0 / 65536
      · have b2 := decide_eq_true c2
        have hx0 : 0 ≤ a0 / 65536 / 256 := by omega
        have hx1 : a0 / 65536 / 256 < 256 := by omega
        have hb := bl_small hx0 hx1
        have ht := tab_bl' (a0 / 65536 / 256) hx0 hx1 (by show (a0 / 65536 / 256).toNat < 256; omega)
        have hd : (bl a0.toNat : Int) = 24 + bl (a0 / 65536 / 256).toNat := by
          have := bl_div (n := a0.toNat) (j := 24) (by omega)
          rw [this, show a0.toNat / 2 ^ 24 = (a0 / 65536 / 256).toNat from by omega]
          rfl
        have HD := Aside0.mk hd
        clear hd
        have HT := Aside0.mk ht
        have HBS := Aside0.mk hb
        clear ht hb
        go_enter Try.func84, Try.ntmps84
        go_wp2
        go_ret
        refine ⟨ret_i64 ?_, rfl⟩
        rw [HD.out, HT.out]
        have e2 := HBS.out
        have e3 := bl_nn (a0 / 65536 / 256).toNat
        generalize (bl (a0 / 65536 / 256).toNat : Int) = z at e2 e3 ⊢
        unfold wrap64
        omega
      · have b2 := decide_eq_false c2
        have hx0 : 0 ≤ a0 / 65536 := by omega
        have hx1 : a0 / 65536 < 256 := by omega
        have hb := bl_small hx0 hx1
        have ht := tab_bl' (a0 / 65536) hx0 hx1 (by show (a0 / 65536).toNat < 256; omega)
        have hd : (bl a0.toNat : Int) = 16 + bl (a0 / 65536).toNat := by
          have := bl_div (n := a0.toNat) (j := 16) (by omega)
          rw [this, show a0.toNat / 2 ^ 16 = (a0 / 65536).toNat from by omega]
          rfl
        have HD := Aside0.mk hd
        clear hd
        have HT := Aside0.mk ht
        have HBS := Aside0.mk hb
        clear ht hb
        go_enter Try.func84, Try.ntmps84
        go_wp2
        go_ret
        refine ⟨ret_i64 ?_, rfl⟩
        rw [HD.out, HT.out]
        have e2 := HBS.out
        have e3 := bl_nn (a0 / 65536).toNat
        generalize (bl (a0 / 65536).toNat : Int) = z at e2 e3 ⊢
        unfold wrap64
        omega
    · have b1 := decide_eq_false c1
      by_cases c2 : 256 ≤ a0
      · have b2 := decide_eq_true c2
        have hx0 : 0 ≤ a0 / 256 := by omega
        have hx1 : a0 / 256 < 256 := by omega
        have hb := bl_small hx0 hx1
        have ht := tab_bl' (a0 / 256) hx0 hx1 (by show (a0 / 256).toNat < 256; omega)
        have hd : (bl a0.toNat : Int) = 8 + bl (a0 / 256).toNat := by
          have := bl_div (n := a0.toNat) (j := 8) (by omega)
          rw [this, show a0.toNat / 2 ^ 8 = (a0 / 256).toNat from by omega]
          rfl
        have HD := Aside0.mk hd
        clear hd
        have HT := Aside0.mk ht
        have HBS := Aside0.mk hb
        clear ht hb
        go_enter Try.func84, Try.ntmps84
        go_wp2
        go_ret
        refine ⟨ret_i64 ?_, rfl⟩
        rw [HD.out, HT.out]
        have e2 := HBS.out
        have e3 := bl_nn (a0 / 256).toNat
        generalize (bl (a0 / 256).toNat : Int) = z at e2 e3 ⊢
        unfold wrap64
        omega
      · have b2 := decide_eq_false c2
        have hx0 : 0 ≤ a0 := by omega
        have hx1 : a0 < 256 := by omega
        have hb := bl_small hx0 hx1
        have ht := tab_bl' (a0) hx0 hx1 (by show (a0).toNat < 256; omega)
        have HT := Aside0.mk ht
        have HBS := Aside0.mk hb
        clear ht hb
        go_enter Try.func84, Try.ntmps84
        go_wp2
        go_ret
        refine ⟨ret_i64 ?_, rfl⟩
        rw [HT.out]
        have e2 := HBS.out
        have e3 := bl_nn (a0).toNat
        generalize (bl (a0).toNat : Int) = z at e2 e3 ⊢
        unfold wrap64
        omega
end Go.Proofs.Ytfjhlcbpogihmaa.Pr
