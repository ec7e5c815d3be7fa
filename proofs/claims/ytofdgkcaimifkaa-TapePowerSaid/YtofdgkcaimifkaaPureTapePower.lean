/- The pure statement of the law TapePower, proved. Conditions: none. -/
import Derived.Test.YtofdgkcaimifkaaDefTapePower
import Derived.Test.YtofdgkcaimifkaaTapeL
namespace Go.Proofs.Ytofdgkcaimifkaa.Pure
open Go.RowKit Go.Proofs.Ytofdgkcaimifkaa.Pr Go.Proofs.YtofdgkcaimifkaaW.PrintWords Go.Proofs.YtofdgkcaimifkaaW.PrintLast Go.Proofs.YtofdgkcaimifkaaW.PrintMore
theorem power_write (rs : ByteArray) (p : Int) (h : rs.size ≤ 200) (hp : 0 < p) (hp2 : p ≤ 200) : tape_Write.f (⟨#[]⟩ : ByteArray) rs p false (⟨#[120]⟩ : ByteArray) = some ((⟨#[]⟩ : ByteArray), rs ++ (⟨#[120]⟩ : ByteArray), p - 1, false, 0) := by
  have e1 : (⟨#[]⟩ : ByteArray).size = 0 := rfl
  have e2 : (⟨#[120]⟩ : ByteArray).size = 1 := rfl
  unfold tape_Write.f
  rw [e1, e2, if_pos (by omega), if_neg (by decide), if_neg (by omega), if_neg (by omega), if_pos hp, wrap64_in (by omega) (by omega)]
theorem power_sync (rs : ByteArray) (off : Bool) (h : rs.size ≤ 200) : tape_Sync.f (⟨#[]⟩ : ByteArray) rs 0 off = some ((⟨#[]⟩ : ByteArray), rs, 0, true, 6) := by
  have e1 : (⟨#[]⟩ : ByteArray).size = 0 := rfl
  unfold tape_Sync.f
  rw [e1, if_pos (by omega)]
  cases off <;> rfl
theorem power_l1 (acts more : Int) (rs : ByteArray) (hr : (rs.size : Int) = acts) (h1 : acts ≤ 100) (h2 : 0 ≤ more) (h3 : more ≤ 100) : ∀ (d k : Nat) (j : Int) (off : Bool), 0 ≤ j → j + d = more + 1 → ferrulelaw03_TapePower.l1 (k + d + 1) acts more true j (⟨#[]⟩ : ByteArray) rs 0 off = some true
  | 0, k, j, off, hj, hd => by
    show ferrulelaw03_TapePower.l1 (k + 1) _ _ _ _ _ _ _ _ = _
    have e1 : (⟨#[]⟩ : ByteArray).size = 0 := rfl
    obtain ⟨m, hm, hm2, e⟩ := crash_f (⟨#[]⟩ : ByteArray) rs 0 off acts (by rw [e1]; omega)
    have hm3 : m = rs.size := by unfold mn mx at hm2; split at hm2 <;> split at hm2 <;> omega
    subst hm3
    rw [ferrulelaw03_TapePower.l1, if_neg (by omega), e]
    simp only [Option.bind_some]
    rw [emp_app, ext_big rs _ (Nat.le_refl _)]
    unfold tape_Read.f
    rw [if_neg (by decide), e1, if_pos (by omega), app_emp]
    simp [hr]
  | d + 1, k, j, off, hj, hd => by
    show ferrulelaw03_TapePower.l1 ((k + d + 1) + 1) _ _ _ _ _ _ _ _ = _
    rw [ferrulelaw03_TapePower.l1, if_pos (by omega), power_sync rs off (by omega)]
    simp only [Option.bind_some]
    have e : tape_Read.f (⟨#[]⟩ : ByteArray) rs 0 true = some ((⟨#[]⟩ : ByteArray), 6) := rfl
    rw [e]
    simp only [Option.bind_some]
    rw [if_pos trivial, if_pos trivial, if_pos trivial, wrap64_in (by omega) (by omega)]
    exact power_l1 acts more rs hr h1 h2 h3 d k (j + 1) true (by omega) (by omega)
theorem power_l0 (acts more : Int) (h1 : acts ≤ 100) (h2 : 0 ≤ more) (h3 : more ≤ 100) (K : Nat) : ∀ (d : Nat) (rs : ByteArray), (rs.size : Int) + d = acts → ∃ rs' : ByteArray, (rs'.size : Int) = acts ∧ ferrulelaw03_TapePower.l0 (K + d + 1) acts more true (rs.size : Int) (⟨#[]⟩ : ByteArray) rs d false = ferrulelaw03_TapePower.l1 K acts more true 0 (⟨#[]⟩ : ByteArray) rs' 0 false
  | 0, rs, hd => by
    refine ⟨rs, by omega, ?_⟩
    show ferrulelaw03_TapePower.l0 (K + 1) _ _ _ _ _ _ _ _ = _
    rw [ferrulelaw03_TapePower.l0, if_neg (by omega)]
    rfl
  | d + 1, rs, hd => by
    have e2 : (rs ++ (⟨#[120]⟩ : ByteArray)).size = rs.size + 1 := by rw [ByteArray.size_append]; rfl
    obtain ⟨rs', g1, g2⟩ := power_l0 acts more h1 h2 h3 K d (rs ++ (⟨#[120]⟩ : ByteArray)) (by rw [e2]; omega)
    refine ⟨rs', g1, ?_⟩
    show ferrulelaw03_TapePower.l0 ((K + d + 1) + 1) _ _ _ _ _ _ _ _ = _
    rw [ferrulelaw03_TapePower.l0, if_pos (by omega), power_write rs _ (by omega) (by omega) (by omega)]
    simp only [Option.bind_some]
    rw [if_pos trivial, if_neg (by decide), wrap64_in (by omega) (by omega), ← g2, e2]
    congr 1
    omega
theorem TapePower : ferrulelaw03_TapePower.Pure := by
  intro acts more _ _
  refine ⟨1000, ?_⟩
  unfold ferrulelaw03_TapePower.f
  rw [shown_true]
  simp only [Option.bind_some]
  have hj : ferrulelaw03_TapePower.j0 1000 acts more true true = some true := by rw [ferrulelaw03_TapePower.j0, if_pos rfl]
  by_cases c1 : acts < 0
  · rw [if_pos c1, hj]
  rw [if_neg c1]
  by_cases c2 : acts > 100
  · rw [if_pos c2, hj]
  rw [if_neg c2]
  by_cases c3 : more < 0
  · rw [if_pos c3, hj]
  rw [if_neg c3]
  by_cases c4 : more > 100
  · rw [decide_eq_true c4, hj]
  rw [decide_eq_false c4, ferrulelaw03_TapePower.j0, if_neg (by decide)]
  obtain ⟨a, rfl⟩ := Int.eq_ofNat_of_zero_le (Int.not_lt.mp c1)
  obtain ⟨m, rfl⟩ := Int.eq_ofNat_of_zero_le (Int.not_lt.mp c3)
  have hp : tape_Powered.f (⟨#[]⟩ : ByteArray) (⟨#[]⟩ : ByteArray) 0 false (a : Int) = some ((⟨#[]⟩ : ByteArray), (⟨#[]⟩ : ByteArray), (a : Int), false) := by
    unfold tape_Powered.f mx
    rw [if_neg (by omega)]
  rw [hp]
  simp only [Option.bind_some]
  have e1 : (⟨#[]⟩ : ByteArray).size = 0 := rfl
  obtain ⟨rs', g1, g2⟩ := power_l0 a m (by omega) (by omega) (by omega) (998 - a) a (⟨#[]⟩ : ByteArray) (by rw [e1]; omega)
  rw [e1, (by omega : 998 - a + a + 1 = 999)] at g2
  refine g2.trans ?_
  have h := power_l1 a m rs' g1 (by omega) (by omega) (by omega) (m + 1) (998 - a - (m + 1) - 1) 0 false (by omega) (by omega)
  rw [(by omega : 998 - a - (m + 1) - 1 + (m + 1) + 1 = 998 - a)] at h
  exact h
end Go.Proofs.Ytofdgkcaimifkaa.Pure
