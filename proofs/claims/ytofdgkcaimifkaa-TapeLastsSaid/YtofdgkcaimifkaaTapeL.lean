/- Plain laws of tape: the head is true; strings. Conditions: none. -/
import Derived.Test.YtofdgkcaimifkaaPr3
namespace Go.Proofs.Ytofdgkcaimifkaa.Pr
open Go.RowKit Go.Proofs.YtofdgkcaimifkaaW.PrintWords Go.Proofs.YtofdgkcaimifkaaW.PrintLast Go.Proofs.YtofdgkcaimifkaaW.PrintMore
theorem shown_true : ferrulelaw03_shown.f = some true := by decide +kernel
theorem wrap64_in {x : Int} (h0 : -9223372036854775808 ≤ x) (h1 : x < 9223372036854775808) : wrap64 x = x := by
  simp [wrap64]
  omega
theorem ext_big (a : ByteArray) (n : Nat) (h : a.size ≤ n) : a.extract 0 n = a := by
  have h1 : a.extract 0 n = a.extract 0 a.size := by
    apply ByteArray.ext
    simp only [ByteArray.data_extract]
    apply Array.ext
    · simp; have : a.data.size = a.size := rfl; omega
    · intro i h2 h3; simp
  rw [h1, ByteArray.extract_zero_size]
theorem ext_left (a b : ByteArray) (n : Nat) (h : n = a.size) : (a ++ b).extract 0 n = a := ByteArray.extract_append_eq_left h
theorem ext_more (a b : ByteArray) (n k : Nat) (h : n = a.size + k) : (a ++ b).extract 0 n = a ++ b.extract 0 k := by
  subst h
  rw [ByteArray.extract_append, ext_big a _ (by omega)]
  congr 2
  · omega
  · omega
theorem ext_size (b : ByteArray) (k : Nat) (h : k ≤ b.size) : (b.extract 0 k).size = k := by rw [ByteArray.size_extract]; omega
theorem emp_app (a : ByteArray) : (⟨#[]⟩ : ByteArray) ++ a = a := ByteArray.empty_append
theorem app_emp (a : ByteArray) : a ++ (⟨#[]⟩ : ByteArray) = a := ByteArray.append_empty
theorem crash_f (sf rs : ByteArray) (p : Int) (off : Bool) (a : Int) (h0 : sf.size + rs.size ≤ 4611686018427387904) : ∃ k : Nat, k ≤ rs.size ∧ (k : Int) = mn (mx a 0) rs.size ∧ tape_Crash.f sf rs p off a = some (sf ++ rs.extract 0 k, (⟨#[]⟩ : ByteArray), -1, false) := by
  have h1 : 0 ≤ mn (mx a 0) (rs.size : Int) ∧ mn (mx a 0) (rs.size : Int) ≤ rs.size := by unfold mn mx; split <;> split <;> omega
  refine ⟨(mn (mx a 0) (rs.size : Int)).toNat, by omega, by omega, ?_⟩
  unfold tape_Crash.f crashI
  rw [if_pos h0]
end Go.Proofs.Ytofdgkcaimifkaa.Pr
