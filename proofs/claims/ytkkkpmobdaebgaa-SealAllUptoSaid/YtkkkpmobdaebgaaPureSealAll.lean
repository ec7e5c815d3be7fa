/- Whatever bytes there are, the sealed texts in them are told one by one, again when they are asked for again, and as far as they are asked for: proved of the walked function. Conditions: none. -/
import Derived.Test.YtkkkpmobdaebgaaDefSealAll
import Derived.Test.YtkkkpmobdaebgaaSealA
namespace Go.Proofs.Ytkkkpmobdaebgaa.Pr
open Go.RowKit Go.Proofs.YtkkkpmobdaebgaaW.PrintWords Go.Proofs.YtkkkpmobdaebgaaW.PrintLast Go.Proofs.YtkkkpmobdaebgaaW.PrintMore
set_option linter.unusedVariables false
set_option linter.unusedSimpArgs false
theorem takes_both_ (a : ByteArray) (ha : a.size ≤ 140737488351232) : ∃ r, seal_Take.f (a.size + 30) a = some r ∧ ferruleref02_Take.f (a.size + 30) a = some r := by
  obtain ⟨r, h1, h2⟩ := take_both a
  have g1 := up (fun k => pack_TakeNum.f k a) (fun k => pack_TakeNum.mono _ k) h1 (by omega : 20 ≤ a.size + 30)
  have g2 := up (fun k => ferruleref01_TakeNum.f k a) (fun k => ferruleref01_TakeNum.mono _ k) h2 (by omega : 20 ≤ a.size + 30)
  try simp only at g1 g2
  unfold seal_Take.f ferruleref02_Take.f
  rw [g1, g2]
  simp only [Option.bind_some]
  rcases take_full a with ⟨e, he, hf⟩ | ⟨m, v, hm1, hm8, hm, hf, hi, hv, hL, hshort⟩
  · rw [hf] at h1
    obtain rfl := Option.some.inj h1
    try simp only
    rw [if_neg he, if_neg he]
    exact ⟨_, rfl, rfl⟩
  · rw [hf] at h1
    obtain rfl := Option.some.inj h1
    try simp only
    have hv0 := hi.1
    have hrs : (a.extract m a.size).size = a.size - m := by rw [ByteArray.size_extract]; omega
    rw [if_true, if_true]
    by_cases c1 : v > 65536
    · rw [if_pos c1, if_pos c1]
      exact ⟨_, rfl, rfl⟩
    · rw [if_neg c1, if_neg c1]
      rw [wrap_in (x := v + 4) (by omega) (by omega), wrap_in (x := ((a.extract m a.size).size : Int)) (by omega) (by omega)]
      by_cases c2 : v + 4 > ((a.extract m a.size).size : Int)
      · rw [if_pos c2, if_pos c2]
        exact ⟨_, rfl, rfl⟩
      · rw [if_neg c2, if_neg c2]
        have has : ((a.extract m a.size).extract (v + 4).toNat (a.extract m a.size).size).size = (a.size - m) - (v + 4).toNat := by rw [ByteArray.size_extract]; omega
        have hA : wrap64 (wrap64 ((a.size : Int) - (((a.extract m a.size).extract (v + 4).toNat (a.extract m a.size).size).size : Int)) - 4) = m + v := by
          rw [has, wrap64_big (x := (a.size : Int) - (((a.size - m) - (v + 4).toNat : Nat) : Int)) (by omega) (by omega), wrap64_big (by omega) (by omega)]
          omega
        have hB : wrap64 (wrap64 ((a.size : Int) - ((a.extract m a.size).size : Int)) + wrap64 v) = m + v := by
          rw [hrs, wrap64_big (x := (a.size : Int) - ((a.size - m : Nat) : Int)) (by omega) (by omega), wrap64_big (x := v) (by omega) (by omega), wrap64_big (by omega) (by omega)]
          omega
        rw [hA, hB]
        have hes : (a.extract 0 ((m : Int) + v).toNat).size ≤ a.size := by rw [ByteArray.size_extract]; omega
        rw [if_pos hv0, if_pos (by omega), if_pos (by omega), if_pos (by omega), if_pos (by omega), if_pos (by omega), sum_f _ (by omega), rsum_f _ (by omega) _ (by omega)]
        simp only [Option.bind_some]
        rw [tail_f, four_f (sumI_range _).1]
        simp only [Option.bind_some]
        generalize tailB (sumI (a.extract 0 ((m : Int) + v).toNat)) = t
        by_cases c3 : t.toList = ((a.extract m a.size).extract v.toNat (v + 4).toNat).toList
        · simp only [if_pos c3, if_pos hv0, if_pos (by omega : v ≤ v + 4), if_pos (by omega : 0 ≤ v + 4), if_pos (by omega : v + 4 ≤ ((a.extract m a.size).size : Int)), if_pos (by omega : v ≤ ((a.extract m a.size).size : Int)), if_pos (by omega : 0 ≤ (m : Int) + v), if_pos (by omega : (m : Int) + v ≤ (a.size : Int))]
          exact ⟨_, rfl, rfl⟩
        · simp only [if_neg c3, if_pos hv0, if_pos (by omega : v ≤ v + 4), if_pos (by omega : 0 ≤ v + 4), if_pos (by omega : v + 4 ≤ ((a.extract m a.size).size : Int)), if_pos (by omega : v ≤ ((a.extract m a.size).size : Int)), if_pos (by omega : 0 ≤ (m : Int) + v), if_pos (by omega : (m : Int) + v ≤ (a.size : Int))]
          exact ⟨_, rfl, rfl⟩

theorem take_tot (a : ByteArray) (h : a.size ≤ 140737488351232) (k : Nat) (hk : a.size + 30 ≤ k) : ∃ r, seal_Take.f 20 a = some r ∧ ferruleref02_Take.f k a = some r ∧ (r.2.2 = 0 → r.1.size ≤ 65536 ∧ a.size = (sealB r.1).size + r.2.1.size) := by
  obtain ⟨r0, g1, g2⟩ := takes_both_ a h
  have g3 := up (fun k => ferruleref02_Take.f k a) (fun k => ferruleref02_Take.mono _ k) g2 hk
  obtain ⟨r1, g4, _⟩ := take_total a (by omega)
  have g5 := up (fun k => seal_Take.f k a) (fun k => seal_Take.mono _ k) g4 (by omega : 20 ≤ a.size + 30)
  try simp only at g3 g5
  rw [g1] at g5
  obtain rfl := Option.some.inj g5
  refine ⟨r0, g4, g3, ?_⟩
  rcases take_full a with ⟨er, her, hf⟩ | ⟨m, v, hm1, hm8, hm, hf, hi, hv, hL, hshort⟩
  · intro h0
    unfold seal_Take.f at g4
    rw [hf] at g4
    simp only [Option.bind_some] at g4
    rw [if_neg her] at g4
    obtain rfl := Option.some.inj g4
    exact absurd h0 her
  · intro h0
    by_cases hb : v > 65536
    · unfold seal_Take.f at g4
      rw [hf] at g4
      simp only [Option.bind_some, if_true] at g4
      rw [if_pos (by omega)] at g4
      obtain rfl := Option.some.inj g4
      exact absurd h0 (by decide)
    · unfold inU64 at hi
      obtain ⟨n, rfl⟩ : ∃ n : Nat, v = (n : Int) := ⟨v.toNat, by omega⟩
      have e := extract_two a m hm
      have hz : (a.extract m a.size).size = a.size - m := by rw [ByteArray.size_extract]; omega
      have hs := stake 20 (a.extract 0 m) (a.extract m a.size) n (by rw [e]; exact hf) (by omega) (by rw [e]; omega)
      rw [e, g4] at hs
      have hms : (sizeI (n : Int)) = (m : Int) := by
        have z := congrArg ByteArray.size hL
        rw [strOfNums_size, ByteArray.size_extract] at z
        have := numL_length (v := (n : Int))
        omega
      split at hs
      · obtain rfl := Option.some.inj hs
        exact absurd h0 (by decide)
      · rename_i hlt
        split at hs
        · obtain rfl := Option.some.inj hs
          have hx : ((a.extract m a.size).extract 0 n).size = n := by rw [ByteArray.size_extract]; omega
          have hy : ((a.extract m a.size).extract (n + 4) (a.extract m a.size).size).size = (a.extract m a.size).size - (n + 4) := by rw [ByteArray.size_extract]; omega
          have hsb := sealB_size ((a.extract m a.size).extract 0 n)
          rw [hx] at hsb
          refine ⟨by dsimp only; omega, ?_⟩
          dsimp only
          omega
        · obtain rfl := Option.some.inj hs
          exact absurd h0 (by decide)
theorem sealB_pos (s : ByteArray) (hs : s.size ≤ 65536) : 5 ≤ (sealB s).size := by
  have := sealB_size s
  have := sizeI_cases (s.size : Int)
  omega
theorem all_ref (b : ByteArray) (hb : b.size ≤ 1048576) : ∀ (m : Nat) (rest : ByteArray) (out : List ByteArray) (k : Nat), rest.size < m → rest.size ≤ b.size → out.length + rest.size ≤ 1048576 → rest.size + 40 ≤ k →
    ∃ (L : List ByteArray) (e : Nat), allF 20 m rest = some L ∧ e ≤ rest.size ∧ sumW L = (rest.size : Int) - e ∧ L.length ≤ rest.size ∧ ferruleref02_All.l0 k b out rest = some (out ++ L, (b.size : Int) - e)
  | 0, rest, out, k, h, _, _, _ => absurd h (by omega)
  | m + 1, rest, out, k, h, hr, ho, hk => by
    obtain ⟨k, rfl⟩ : ∃ j, k = j + 1 := ⟨k - 1, by omega⟩
    obtain ⟨r, t1, t2, t3⟩ := take_tot rest (by omega) k (by omega)
    unfold allF ferruleref02_All.l0
    rw [t1, t2]
    simp only [Option.bind_some]
    have hw : wrap64 ((b.size : Int) - (rest.size : Int)) = (b.size : Int) - (rest.size : Int) := wrap64_in' (by omega) (by omega)
    by_cases he : r.2.2 = 0
    · obtain ⟨hs1, hs2⟩ := t3 he
      have hp := sealB_pos r.1 hs1
      rw [if_pos he, if_pos he, if_pos (by omega), if_pos (by omega), if_pos (by omega)]
      obtain ⟨L, e, i1, i2, i3, i4, i5⟩ := all_ref b hb m r.2.1 (out ++ [r.1]) k (by omega) (by omega) (by rw [List.length_append, List.length_singleton]; omega) (by omega)
      refine ⟨r.1 :: L, e, by rw [i1]; rfl, by omega, ?_, by rw [List.length_cons]; omega, ?_⟩
      · simp only [sumW]
        rw [wS_small _ hs1, i3]
        omega
      · rw [i5, List.append_assoc]
        rfl
    · rw [if_neg he, if_neg he]
      refine ⟨[], rest.size, rfl, Nat.le_refl _, by simp [sumW], by simp, ?_⟩
      rw [hw, List.append_nil]
      split <;> rfl
end Go.Proofs.Ytkkkpmobdaebgaa.Pr
namespace Go.Proofs.Ytkkkpmobdaebgaa.Pure
open Go.RowKit Go.Proofs.Ytkkkpmobdaebgaa.Pr Go.Proofs.YtkkkpmobdaebgaaW.PrintWords Go.Proofs.YtkkkpmobdaebgaaW.PrintLast Go.Proofs.YtkkkpmobdaebgaaW.PrintMore
theorem allF_k (b : ByteArray) (m : Nat) (L : List ByteArray) (h : allF 20 m b = some L) {k : Nat} (hk : 20 ≤ k) : allF k m b = some L := up (fun k => allF k m b) (fun k => allF_mono k m b) h hk
theorem SealAll : ferrulelaw02_SealAll.Pure := by
  intro b most hb _
  refine ⟨b.size + 60, ?_⟩
  obtain ⟨L, e, h1, h2, h3, h4, h5⟩ := all_ref b hb (b.size + 1) b [] (b.size + 60) (by omega) (Nat.le_refl _) (by simp; omega) (by omega)
  unfold ferrulelaw02_SealAll.f ferruleref02_All.f
  rw [shown_true, h5, allF_k b _ L h1 (by omega)]
  simp only [Option.bind_some, if_true, List.nil_append]
  rw [if_pos ⟨True.intro, by omega⟩, wholeN_eq, h3, wrap64_in' (by omega) (by omega)]
  simp
end Go.Proofs.Ytkkkpmobdaebgaa.Pure
