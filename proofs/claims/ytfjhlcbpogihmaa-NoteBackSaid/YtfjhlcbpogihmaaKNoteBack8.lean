/- Several texts of one depth, laid together. Conditions: none. -/
import Derived.Test.YtfjhlcbpogihmaaKNoteBack7
import Derived.Test.YtfjhlcbpogihmaaGNoteBackNoteM
import Derived.Test.YtfjhlcbpogihmaaGNoteBackHandRead
import Derived.Test.YtfjhlcbpogihmaaKNoteBack3
section
namespace Go.Proofs.Ytfjhlcbpogihmaa.Pr
open Go.RowKit Go.Proofs.YtfjhlcbpogihmaaW.PrintWords Go.Proofs.YtfjhlcbpogihmaaW.PrintLast Go.Proofs.YtfjhlcbpogihmaaW.PrintMore
set_option linter.unusedVariables false
set_option linter.unusedSimpArgs false
theorem take_tot (a : ByteArray) (h : a.size ≤ 140737488351232) (k : Nat) (hk : a.size + 30 ≤ k) : ∃ r, seal_Take.f 20 a = some r ∧ ferruleref02_Take.f k a = some r ∧ (r.2.2 = 0 → r.1.size ≤ 65536 ∧ a.size = (sealB r.1).size + r.2.1.size) := by
  obtain ⟨r0, g1, g2⟩ := seal_same a h
  have g3 := up (fun k => ferruleref02_Take.f k a) (fun k => ferruleref02_Take.mono _ k) g2 hk
  obtain ⟨r1, g4, _⟩ := take_total a (by omega)
  have g5 := up (fun k => seal_Take.f k a) (fun k => seal_Take.mono _ k) g4 (by omega : 20 ≤ a.size + 30)
  try simp only at g3 g5
  rw [g1] at g5
  obtain rfl := Option.some.inj g5
  refine ⟨r0, g4, g3, ?_⟩
  rcases take_full a with ⟨er, her, hf⟩ | ⟨m, v, hm1, hm8, hm, hf, hi, hv, hL, hshort⟩
  · intro h0
    unfold seal_Take.f at g4
    rw [hf] at g4
    simp only [Option.bind_some] at g4
    rw [if_neg her] at g4
    obtain rfl := Option.some.inj g4
    exact absurd h0 her
  · intro h0
    by_cases hb : v > 65536
    · unfold seal_Take.f at g4
      rw [hf] at g4
      simp only [Option.bind_some, if_true] at g4
      rw [if_pos (by omega)] at g4
      obtain rfl := Option.some.inj g4
      exact absurd h0 (by decide)
    · unfold inU64 at hi
      obtain ⟨n, rfl⟩ : ∃ n : Nat, v = (n : Int) := ⟨v.toNat, by omega⟩
      have e := extract_two a m hm
      have hz : (a.extract m a.size).size = a.size - m := by rw [ByteArray.size_extract]; omega
      have hs := stake 20 (a.extract 0 m) (a.extract m a.size) n (by rw [e]; exact hf) (by omega) (by rw [e]; omega)
      rw [e, g4] at hs
      have hms : (sizeI (n : Int)) = (m : Int) := by
        have z := congrArg ByteArray.size hL
        rw [strOfNums_size, ByteArray.size_extract] at z
        have := numL_length (v := (n : Int))
        omega
      split at hs
      · obtain rfl := Option.some.inj hs
        exact absurd h0 (by decide)
      · rename_i hlt
        split at hs
        · obtain rfl := Option.some.inj hs
          have hx : ((a.extract m a.size).extract 0 n).size = n := by rw [ByteArray.size_extract]; omega
          have hy : ((a.extract m a.size).extract (n + 4) (a.extract m a.size).size).size = (a.extract m a.size).size - (n + 4) := by rw [ByteArray.size_extract]; omega
          have hsb := sealB_size ((a.extract m a.size).extract 0 n)
          rw [hx] at hsb
          refine ⟨by dsimp only; omega, ?_⟩
          dsimp only
          omega
        · obtain rfl := Option.some.inj hs
          exact absurd h0 (by decide)
theorem sealB_pos (s : ByteArray) (hs : s.size ≤ 65536) : 5 ≤ (sealB s).size := by
  have := sealB_size s
  have := sizeI_cases (s.size : Int)
  omega
def wS (s : ByteArray) : Int := wrap64 (wrap64 (sizeI (IntKind.u64.wrap (s.size : Int)) + (s.size : Int)) + 4)
theorem wS_small (s : ByteArray) (h : s.size ≤ 65536) : wS s = ((sealB s).size : Int) := by
  have hz := sealB_size s
  have hc := sizeI_cases (s.size : Int)
  have e : IntKind.u64.wrap (s.size : Int) = (s.size : Int) := by simp [IntKind.wrap, IntKind.signed, IntKind.bits]; omega
  unfold wS
  rw [e, wrap64_in' (x := sizeI (s.size : Int) + _) (by omega) (by omega), wrap64_in' (by omega) (by omega)]
  omega
theorem wi6 {x : Int} (h0 : -9223372036854775808 ≤ x) (h1 : x < 9223372036854775808) : wrap64 x = x := by
  simp [wrap64]
  omega
end Go.Proofs.Ytfjhlcbpogihmaa.Pr
end
