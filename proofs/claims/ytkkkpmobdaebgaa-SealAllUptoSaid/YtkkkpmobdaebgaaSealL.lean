/- Plain laws of seal: the sum by definition, a sum's bytes. Conditions: none. -/
import Derived.Test.YtkkkpmobdaebgaaPackO
import Derived.Test.YtkkkpmobdaebgaaPr2
import Derived.Test.YtkkkpmobdaebgaaPr3
namespace Go.Proofs.Ytkkkpmobdaebgaa.Pr
open Go.RowKit Go.Proofs.YtkkkpmobdaebgaaW.PrintWords Go.Proofs.YtkkkpmobdaebgaaW.PrintLast Go.Proofs.YtkkkpmobdaebgaaW.PrintMore
theorem shown_true : ferrulelaw02_shown.f = some true := by decide +kernel
theorem sumI_range (s : ByteArray) : 0 ≤ sumI s ∧ sumI s < 4294967296 := by
  have := half_range s s.size
  unfold sumI
  omega
theorem rsum_loop (s : ByteArray) (hs : s.size ≤ 4611686018427387904) : ∀ d k i, i + d = s.size → ferruleref02_Sum.l0 (k + d + 1) s (half s i).1 (half s i).2 (i : Int) = some (sumI s)
  | 0, k, i, hi => by
    show ferruleref02_Sum.l0 (k + 1) s _ _ _ = _
    have hr := half_range s i
    have hie : i = s.size := by omega
    rw [ferruleref02_Sum.l0, if_neg (by omega)]
    unfold sumI
    rw [← hie]
    congr 1
    omega
  | d + 1, k, i, hi => by
    show ferruleref02_Sum.l0 ((k + d + 1) + 1) s _ _ _ = _
    have hr := half_range s i
    have hb := bt_range s i
    have ih := rsum_loop s hs d k (i + 1) (by omega)
    simp only [half] at ih
    rw [ferruleref02_Sum.l0, if_pos (by omega), if_pos (by omega)]
    have e1 : (((half s i).1 + (bt s i % 4294967296)) % 4294967296) % 65521 = ((half s i).1 + bt s i) % 65521 := by omega
    have e2 : (((half s i).2 + ((half s i).1 + bt s i) % 65521) % 4294967296) % 65521 = ((half s i).2 + ((half s i).1 + bt s i) % 65521) % 65521 := by omega
    rw [e1, e2, wrap64_big (by omega) (by omega)]
    exact ih
theorem rsum_f (s : ByteArray) (hs : s.size ≤ 4611686018427387904) (k : Nat) (hk : s.size + 1 ≤ k) : ferruleref02_Sum.f k s = some (sumI s) := by
  have hk2 : k = (k - s.size - 1) + s.size + 1 := by omega
  unfold ferruleref02_Sum.f
  rw [hk2]
  exact rsum_loop s hs s.size (k - s.size - 1) 0 (by omega)
theorem sum_f (s : ByteArray) (hs : s.size ≤ 4611686018427387904) : seal_Sum.f s = some (sumI s) := by
  unfold seal_Sum.f
  rw [if_pos hs]
theorem up {α : Type} (f : Nat → Option α) (hm : ∀ k, LeO (f k) (f (k + 1))) {k n : Nat} {r : α} (h : f k = some r) (hkn : k ≤ n) : f n = some r := by
  obtain ⟨d, rfl⟩ := Nat.exists_eq_add_of_le hkn
  clear hkn
  induction d with
  | zero => exact h
  | succ d ih => exact hm _ _ ih
end Go.Proofs.Ytkkkpmobdaebgaa.Pr
