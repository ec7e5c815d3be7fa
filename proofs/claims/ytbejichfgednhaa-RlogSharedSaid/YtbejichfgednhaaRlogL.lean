/- Plain laws of rlog: the same list is the same, the last one by definition. Conditions: none. -/
import Derived.Test.YtbejichfgednhaaHandShown
import Derived.Test.YtbejichfgednhaaPr2
import Derived.Test.YtbejichfgednhaaPr3
import Derived.Test.YtbejichfgednhaaPr6
namespace Go.Proofs.Ytbejichfgednhaa.Pr
open Go.RowKit Go.Proofs.YtbejichfgednhaaW.PrintWords Go.Proofs.YtbejichfgednhaaW.PrintLast Go.Proofs.YtbejichfgednhaaW.PrintMore
theorem wrap64_big {x : Int} (h0 : 0 ≤ x) (h1 : x ≤ 4611686018427387905) : wrap64 x = x := by
  simp [wrap64]
  omega
theorem wrapU_in {x : Int} (h0 : 0 ≤ x) (h1 : x < 18446744073709551616) : IntKind.u64.wrap x = x := by
  simp [IntKind.wrap, IntKind.signed, IntKind.bits]
  omega
theorem ent_loop (l : List S36) (hl : l.length ≤ 4611686018427387904) : ∀ d k i, i + d = l.length → ferruleref05_Entries.l0 (k + d + 1) l l (i : Int) = some true
  | 0, k, i, hi => by
    show ferruleref05_Entries.l0 (k + 1) l l _ = _
    rw [ferruleref05_Entries.l0, if_neg (by omega)]
  | d + 1, k, i, hi => by
    show ferruleref05_Entries.l0 ((k + d + 1) + 1) l l _ = _
    rw [ferruleref05_Entries.l0, if_pos (by omega), if_pos (by omega), if_pos (by omega), if_neg (by simp), wrap64_big (by omega) (by omega)]
    exact ent_loop l hl d k (i + 1) (by omega)
theorem ent_same (l : List S36) (hl : l.length ≤ 4611686018427387904) (k : Nat) (hk : l.length + 1 ≤ k) : ferruleref05_Entries.f k l l = some true := by
  have hk2 : k = (k - l.length - 1) + l.length + 1 := by omega
  unfold ferruleref05_Entries.f
  rw [if_pos rfl, hk2]
  exact ent_loop l hl l.length (k - l.length - 1) 0 (by omega)
theorem same_same (b t : Int) (x : ByteArray) (l : List S36) (hl : l.length ≤ 4611686018427387904) (k : Nat) (hk : l.length + 1 ≤ k) : ferruleref05_Same.f k b t x l b t x l = some true := by
  unfold ferruleref05_Same.f
  rw [ent_same l hl k hk]
  simp
/-- The term of the i-th. -/
def lastT (l : List S36) (t : Int) (i : Nat) : Int := if i = 0 then t else (rd_T36 l ((i : Int) - 1)).f0
theorem last_loop (l : List S36) (b t B T : Int) (X : ByteArray) (hl : l.length ≤ 140737488355328) (hb0 : 0 ≤ b) (hb1 : b ≤ 4611686018427387903) : ∀ d k i, i + d = l.length →
    ferruleref05_Last.l0 (k + d + 1) (b + i) (lastT l t i) (i : Int) B T X l = some (b + l.length, lastT l t l.length)
  | 0, k, i, hi => by
    show ferruleref05_Last.l0 (k + 1) _ _ _ B T X l = _
    rw [ferruleref05_Last.l0, if_neg (by omega)]
    have : i = l.length := by omega
    rw [this]
  | d + 1, k, i, hi => by
    show ferruleref05_Last.l0 ((k + d + 1) + 1) _ _ _ B T X l = _
    rw [ferruleref05_Last.l0, if_pos (by omega), if_pos (by omega), wrapU_in (by omega) (by omega), wrap64_big (by omega) (by omega)]
    have h := last_loop l b t B T X hl hb0 hb1 d k (i + 1) (by omega)
    have e1 : lastT l t (i + 1) = (rd_T36 l (i : Int)).f0 := by
      unfold lastT
      rw [if_neg (by omega), (by omega : (((i + 1 : Nat) : Int) - 1) = (i : Int))]
    rw [e1] at h
    rw [(by omega : b + (i : Int) + 1 = b + ((i + 1 : Nat) : Int))]
    exact h
theorem rlast_f (b t : Int) (x : ByteArray) (l : List S36) (hl : l.length ≤ 140737488355328) (hb0 : 0 ≤ b) (hb1 : b ≤ 4611686018427387903) (k : Nat) (hk : l.length + 1 ≤ k) : ferruleref05_Last.f k b t x l = some (b + l.length, lastT l t l.length) := by
  have hk2 : k = (k - l.length - 1) + l.length + 1 := by omega
  unfold ferruleref05_Last.f
  rw [hk2]
  have h := last_loop l b t b t x hl hb0 hb1 l.length (k - l.length - 1) 0 (by omega)
  have e0 : lastT l t 0 = t := rfl
  rw [e0, (by omega : b + ((0 : Nat) : Int) = b)] at h
  exact h
theorem last_f (b t : Int) (x : ByteArray) (l : List S36) (hl : l.length ≤ 140737488355328) (hb0 : 0 ≤ b) (hb1 : b ≤ 4611686018427387903) : rlog_Last.f b t x l = some (b + l.length, lastT l t l.length) := by
  unfold rlog_Last.f lastT
  by_cases h : (l.length : Int) = 0
  · rw [if_pos h, if_pos (by omega)]
    have : b + (l.length : Int) = b := by omega
    rw [this]
  · rw [if_neg h, wrap64_big (by omega) (by omega), if_pos (by omega), if_pos (by omega), wrapU_in (x := (l.length : Int)) (by omega) (by omega), wrapU_in (by omega) (by omega), if_neg (by omega)]
end Go.Proofs.Ytbejichfgednhaa.Pr
