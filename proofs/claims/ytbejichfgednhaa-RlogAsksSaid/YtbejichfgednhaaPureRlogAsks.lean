/- The pure statement of the law RlogAsks, proved. Conditions: none. -/
import Derived.Test.YtbejichfgednhaaDefRlogAsks
namespace Go.Proofs.Ytbejichfgednhaa.Pure
open Go.RowKit Go.Proofs.Ytbejichfgednhaa.Pr Go.Proofs.YtbejichfgednhaaW.PrintWords Go.Proofs.YtbejichfgednhaaW.PrintLast Go.Proofs.YtbejichfgednhaaW.PrintMore
theorem wrap64_big {x : Int} (h0 : 0 ≤ x) (h1 : x ≤ 4611686018427387905) : wrap64 x = x := by
  simp [wrap64]
  omega
theorem wrapU_in {x : Int} (h0 : 0 ≤ x) (h1 : x < 18446744073709551616) : IntKind.u64.wrap x = x := by
  simp [IntKind.wrap, IntKind.signed, IntKind.bits]
  omega
/-- The term of the i-th. -/
def lastT (l : List S36) (t : Int) (i : Nat) : Int := if i = 0 then t else (rd_T36 l ((i : Int) - 1)).f0
theorem last_loop (l : List S36) (b t B T : Int) (X : ByteArray) (hl : l.length ≤ 140737488355328) (hb0 : 0 ≤ b) (hb1 : b ≤ 4611686018427387903) : ∀ d k i, i + d = l.length →
    ferruleref05_Last.l0 (k + d + 1) (b + i) (lastT l t i) (i : Int) B T X l = some (b + l.length, lastT l t l.length)
  | 0, k, i, hi => by
    show ferruleref05_Last.l0 (k + 1) _ _ _ B T X l = _
    rw [ferruleref05_Last.l0, if_neg (by omega)]
    have : i = l.length := by omega
    rw [this]
  | d + 1, k, i, hi => by
    show ferruleref05_Last.l0 ((k + d + 1) + 1) _ _ _ B T X l = _
    rw [ferruleref05_Last.l0, if_pos (by omega), if_pos (by omega), wrapU_in (by omega) (by omega), wrap64_big (by omega) (by omega)]
    have h := last_loop l b t B T X hl hb0 hb1 d k (i + 1) (by omega)
    have e1 : lastT l t (i + 1) = (rd_T36 l (i : Int)).f0 := by
      unfold lastT
      rw [if_neg (by omega), (by omega : (((i + 1 : Nat) : Int) - 1) = (i : Int))]
    rw [e1] at h
    rw [(by omega : b + (i : Int) + 1 = b + ((i + 1 : Nat) : Int))]
    exact h
theorem rlast_f (b t : Int) (x : ByteArray) (l : List S36) (hl : l.length ≤ 140737488355328) (hb0 : 0 ≤ b) (hb1 : b ≤ 4611686018427387903) (k : Nat) (hk : l.length + 1 ≤ k) : ferruleref05_Last.f k b t x l = some (b + l.length, lastT l t l.length) := by
  have hk2 : k = (k - l.length - 1) + l.length + 1 := by omega
  unfold ferruleref05_Last.f
  rw [hk2]
  have h := last_loop l b t b t x hl hb0 hb1 l.length (k - l.length - 1) 0 (by omega)
  have e0 : lastT l t 0 = t := rfl
  rw [e0, (by omega : b + ((0 : Nat) : Int) = b)] at h
  exact h
theorem last_f (b t : Int) (x : ByteArray) (l : List S36) (hl : l.length ≤ 140737488355328) (hb0 : 0 ≤ b) (hb1 : b ≤ 4611686018427387903) : rlog_Last.f b t x l = some (b + l.length, lastT l t l.length) := by
  unfold rlog_Last.f lastT
  by_cases h : (l.length : Int) = 0
  · rw [if_pos h, if_pos (by omega)]
    have : b + (l.length : Int) = b := by omega
    rw [this]
  · rw [if_neg h, wrap64_big (by omega) (by omega), if_pos (by omega), if_pos (by omega), wrapU_in (x := (l.length : Int)) (by omega) (by omega), wrapU_in (by omega) (by omega), if_neg (by omega)]
theorem term_both (b t : Int) (x : ByteArray) (l : List S36) (i : Int) (hl : l.length ≤ 140737488355328) (hb : 0 ≤ b) (hi0 : 0 ≤ i) (hi : i < 18446744073709551616) : ∃ r, rlog_TermAt.f b t x l i = some r ∧ ferruleref05_TermAt.f b t x l i = some r := by
  unfold rlog_TermAt.f ferruleref05_TermAt.f
  by_cases h : i = b
  · rw [if_pos h, if_pos h]
    exact ⟨_, rfl, rfl⟩
  · rw [if_neg h, if_neg h]
    unfold rlog_at.f
    by_cases h1 : i < b
    · rw [if_pos h1, if_pos (by omega)]
      exact ⟨_, rfl, rfl⟩
    · rw [if_neg h1, if_neg (by omega), wrapU_in (x := i - b) (by omega) (by omega), wrapU_in (x := (l.length : Int)) (by omega) (by omega)]
      by_cases h2 : i - b > l.length
      · rw [if_pos h2, if_pos (by omega)]
        exact ⟨_, rfl, rfl⟩
      · rw [if_neg h2, if_neg (by omega), wrapU_in (x := i - b - 1) (by omega) (by omega), wrap64_big (x := i - b - 1) (by omega) (by omega)]
        simp only [Option.bind_some]
        rw [if_pos trivial, if_pos (by omega), if_pos (by omega)]
        exact ⟨_, rfl, rfl⟩
theorem right_loop (b t : Int) (x : ByteArray) (l : List S36) (hl : l.length ≤ 140737488355328) : ∀ d k i, i + d = l.length → ferruleref05_Right.l0 (k + d + 1) (i : Int) b t x l = some (risesB (lastT l t i) (l.drop i))
  | 0, k, i, hi => by
    show ferruleref05_Right.l0 (k + 1) _ _ _ _ _ = _
    rw [ferruleref05_Right.l0, if_neg (by omega), List.drop_of_length_le (by omega)]
    rfl
  | d + 1, k, i, hi => by
    show ferruleref05_Right.l0 ((k + d + 1) + 1) _ _ _ _ _ = _
    have e1 : lastT l t (i + 1) = (rd_T36 l (i : Int)).f0 := by
      unfold lastT
      rw [if_neg (by omega), (by omega : (((i + 1 : Nat) : Int) - 1) = (i : Int))]
    have ih := right_loop b t x l hl d k (i + 1) (by omega)
    rw [e1] at ih
    rw [ferruleref05_Right.l0, if_pos (by omega), risesB_at _ l i (by omega)]
    have hw : wrap64 ((i : Int) + 1) = ((i + 1 : Nat) : Int) := by rw [wrap64_big (by omega) (by omega)]; omega
    by_cases h0 : (i : Int) > 0
    · have e2 : lastT l t i = (rd_T36 l ((i : Int) - 1)).f0 := by
        unfold lastT
        rw [if_neg (by omega)]
      rw [if_pos h0, wrap64_big (x := (i : Int) - 1) (by omega) (by omega), if_pos (by omega), if_pos (by omega), if_pos (by omega), e2, hw, ih]
      by_cases hf : (rd_T36 l (i : Int)).f0 < (rd_T36 l ((i : Int) - 1)).f0
      · rw [if_pos hf, decide_eq_true hf]
        rfl
      · rw [if_neg hf, decide_eq_false hf]
        rfl
    · have e2 : lastT l t i = t := by
        unfold lastT
        rw [if_pos (by omega)]
      rw [if_neg h0, if_pos (by omega), e2, hw, ih]
      by_cases hf : (rd_T36 l (i : Int)).f0 < t
      · rw [if_pos hf, decide_eq_true hf]
        rfl
      · rw [if_neg hf, decide_eq_false hf]
        rfl
theorem right_both (b t : Int) (x : ByteArray) (l : List S36) (hl : l.length ≤ 140737488355328) (k : Nat) (hk : l.length + 2 ≤ k) : ferruleref05_Right.f k b t x l = rlog_Right.f b t x l := by
  obtain ⟨k, rfl⟩ : ∃ m, k = m + l.length + 1 + 1 := ⟨k - l.length - 2, by omega⟩
  unfold ferruleref05_Right.f rlog_Right.f
  by_cases h : b > 1099511627776
  · rw [if_pos h, ferruleref05_Right.j0, if_pos rfl, decide_eq_true h]
    rfl
  · rw [if_neg h, decide_eq_false h]
    by_cases h1 : (l.length : Int) > 1024
    · rw [decide_eq_true h1, ferruleref05_Right.j0, if_pos rfl]
      rfl
    · rw [decide_eq_false h1, ferruleref05_Right.j0, if_neg (by decide)]
      exact right_loop b t x l hl l.length k 0 (by omega)
theorem newer_both (a b c d : Int) : ∃ r, rlog_Newer.f a b c d = some r ∧ ferruleref05_Newer.f a b c d = some r := by
  unfold rlog_Newer.f ferruleref05_Newer.f
  by_cases h : a > c
  · rw [if_pos h, if_neg (by omega), decide_eq_true h]
    exact ⟨_, rfl, rfl⟩
  · rw [if_neg h]
    by_cases h1 : a = c
    · rw [if_pos h1, if_pos h1]
      exact ⟨_, rfl, rfl⟩
    · rw [if_neg h1, if_neg h1, decide_eq_false h]
      exact ⟨_, rfl, rfl⟩
theorem RlogAsks : ferrulelaw05_RlogAsks.Pure := by
  intro b t x l i u hq hi hu
  have hb := hq.1
  simp [Lit.wf, IntKind.min, IntKind.max, IntKind.signed, IntKind.bits] at hb hi hu
  have hl : l.length * 24 ≤ 140737488351232 := hq.2.2.2.2.1
  refine ⟨l.length + 10, ?_⟩
  unfold ferrulelaw05_RlogAsks.f
  show (some true).bind _ = _
  simp only [Option.bind_some]
  by_cases h : b > 4611686018427387903
  · rw [if_pos h]
  · rw [if_neg h, last_f b t x l (by omega) (by omega) (by omega), rlast_f b t x l (by omega) (by omega) (by omega) _ (by omega)]
    obtain ⟨r, e1, e2⟩ := term_both b t x l i (by omega) (by omega) (by omega) (by omega)
    obtain ⟨q, e3, e4⟩ := newer_both u i (lastT l t l.length) (b + l.length)
    rw [e1, e2]
    simp only [Option.bind_some]
    rw [right_both b t x l (by omega) _ (by omega), e3, e4]
    unfold rlog_Right.f
    simp
end Go.Proofs.Ytbejichfgednhaa.Pure
