/- A snapshot is put in the place of what is ahead of it, and a log is compacted, as the document says: proved of the printed function. Conditions: none. -/
import Derived.Test.YtbejichfgednhaaDefRlogInstalls
namespace Go.Proofs.Ytbejichfgednhaa.Pure
open Go.RowKit Go.Proofs.Ytbejichfgednhaa.Pr Go.Proofs.YtbejichfgednhaaW.PrintWords Go.Proofs.YtbejichfgednhaaW.PrintLast Go.Proofs.YtbejichfgednhaaW.PrintMore
set_option linter.unusedVariables false
theorem wrap64_big {x : Int} (h0 : 0 ≤ x) (h1 : x ≤ 4611686018427387905) : wrap64 x = x := by
  simp [wrap64]
  omega
theorem wrapU_in {x : Int} (h0 : 0 ≤ x) (h1 : x < 18446744073709551616) : IntKind.u64.wrap x = x := by
  simp [IntKind.wrap, IntKind.signed, IntKind.bits]
  omega
theorem ent_loop (l : List S36) (hl : l.length ≤ 4611686018427387904) : ∀ d k i, i + d = l.length → ferruleref05_Entries.l0 (k + d + 1) l l (i : Int) = some true
  | 0, k, i, h => by
    rw [ferruleref05_Entries.l0, if_neg (by omega)]
  | d + 1, k, i, h => by
    have ih := ent_loop l hl d k (i + 1) (by omega)
    rw [show k + (d + 1) + 1 = (k + d + 1) + 1 by omega, ferruleref05_Entries.l0, if_pos (by omega), if_pos (by omega), if_pos (by omega)]
    rw [show wrap64 ((i : Int) + 1) = ((i + 1 : Nat) : Int) by rw [wrap64_big (by omega) (by omega)]; omega]
    rw [if_neg (by simp)]
    exact ih
theorem ent_same (l : List S36) (hl : l.length ≤ 4611686018427387904) (k : Nat) (hk : l.length + 1 ≤ k) : ferruleref05_Entries.f k l l = some true := by
  unfold ferruleref05_Entries.f
  rw [if_pos rfl]
  obtain ⟨q, rfl⟩ : ∃ q, k = q + l.length + 1 := ⟨k - l.length - 1, by omega⟩
  exact ent_loop l hl l.length q 0 (by omega)
theorem same_same (b t : Int) (x : ByteArray) (l : List S36) (hl : l.length ≤ 4611686018427387904) (k : Nat) (hk : l.length + 1 ≤ k) : ferruleref05_Same.f k b t x l b t x l = some true := by
  unfold ferruleref05_Same.f
  rw [ent_same l hl k hk]
  simp
/-- What a log is behind a snapshot. -/
def instR (b t : Int) (x : ByteArray) (l : List S36) (i term : Int) (snap : ByteArray) : Int × Int × ByteArray × List S36 :=
  if i ≤ b then (b, t, x, l) else if i - b ≤ l.length then (if (rd_T36 l (i - b - 1)).f0 = term then (i, term, snap, l.drop (i - b).toNat) else (i, term, snap, [])) else (i, term, snap, [])
theorem instR_len (b t : Int) (x : ByteArray) (l : List S36) (i term : Int) (snap : ByteArray) : (instR b t x l i term snap).2.2.2.length ≤ l.length := by
  unfold instR
  repeat' split
  all_goals simp
theorem at_f (b t : Int) (x : ByteArray) (l : List S36) (i : Int) (hl : l.length ≤ 140737488355328) (hb : 0 ≤ b) (hi : i < 18446744073709551616) : rlog_at.f b t x l i = if i ≤ b then some (0, false) else if i - b ≤ l.length then some (i - b - 1, true) else some (0, false) := by
  unfold rlog_at.f
  by_cases h0 : i ≤ b
  · rw [if_pos h0, if_pos h0]
  · rw [if_neg h0, if_neg h0, wrapU_in (x := i - b) (by omega) (by omega), wrapU_in (x := (l.length : Int)) (by omega) (by omega)]
    by_cases c : i - b ≤ l.length
    · rw [if_neg (by omega), if_pos c, wrapU_in (by omega) (by omega), wrap64_big (by omega) (by omega)]
    · rw [if_pos (by omega), if_neg c]
theorem rterm_f (b t : Int) (x : ByteArray) (l : List S36) (i : Int) (hl : l.length ≤ 140737488355328) (hb : 0 ≤ b) (h0 : ¬ i ≤ b) (hi : i < 18446744073709551616) : ferruleref05_TermAt.f b t x l i = if i - b ≤ l.length then some ((rd_T36 l (i - b - 1)).f0, true) else some (0, false) := by
  unfold ferruleref05_TermAt.f
  rw [if_neg (by omega), if_neg (by omega), wrapU_in (x := i - b) (by omega) (by omega), wrapU_in (x := (l.length : Int)) (by omega) (by omega)]
  by_cases c : i - b ≤ l.length
  · rw [if_neg (by omega), if_pos c, wrapU_in (x := i - b - 1) (by omega) (by omega), if_pos (by omega), if_pos (by omega)]
  · rw [if_pos (by omega), if_neg c]
theorem inst_f (b t : Int) (x : ByteArray) (l : List S36) (i term : Int) (snap : ByteArray) (hl : l.length < 5864062014805) (hb : 0 ≤ b) (hi : i < 18446744073709551616) : rlog_Install.f b t x l i term snap = some (instR b t x l i term snap) := by
  unfold rlog_Install.f instR
  by_cases h0 : i ≤ b
  · rw [if_pos h0, if_pos h0]
  · rw [if_neg h0, if_neg h0, at_f b t x l i (by omega) hb hi, if_neg h0]
    by_cases c : i - b ≤ l.length
    · rw [if_pos c, if_pos c]
      simp only [Option.bind_some, if_true]
      rw [if_pos (by omega), if_pos (by omega)]
      by_cases e : (rd_T36 l (i - b - 1)).f0 = term
      · rw [if_pos e, if_pos e, wrap64_big (by omega) (by omega), if_pos (by omega), if_pos (by omega)]
        unfold slices_Clone.f
        rw [if_pos (by rw [List.length_drop]; omega)]
        simp only [Option.bind_some]
        rw [show i - b - 1 + 1 = i - b by omega]
      · rw [if_neg e, if_neg e]
    · rw [if_neg c, if_neg c]
      simp
theorem rinst_f (b t : Int) (x : ByteArray) (l : List S36) (i term : Int) (snap : ByteArray) (hl : l.length < 5864062014805) (hb : 0 ≤ b) (hi : i < 18446744073709551616) : ferruleref05_Install.f b t x l i term snap = some (instR b t x l i term snap) := by
  unfold ferruleref05_Install.f instR
  by_cases h0 : i ≤ b
  · rw [if_pos h0, if_pos h0]
  · rw [if_neg h0, if_neg h0, rterm_f b t x l i (by omega) hb h0 hi]
    by_cases c : i - b ≤ l.length
    · rw [if_pos c, if_pos c]
      simp only [Option.bind_some, if_true]
      by_cases e : (rd_T36 l (i - b - 1)).f0 = term
      · rw [if_pos e, if_pos e, wrapU_in (by omega) (by omega), if_pos (by omega), if_pos (by omega), if_pos (by simp; omega)]
        simp
      · rw [if_neg e, if_neg e]
    · rw [if_neg c, if_neg c]
      simp
def compR (b t : Int) (x : ByteArray) (l : List S36) (i : Int) (snap : ByteArray) : Int × Int × ByteArray × List S36 × Int :=
  if i ≤ b then (0, 0, ⟨#[]⟩, [], 1) else if i - b ≤ l.length then (if (snap.size : Int) > 4096 then (0, 0, ⟨#[]⟩, [], 1) else
    ((instR b t x l i (rd_T36 l (i - b - 1)).f0 snap).1, (instR b t x l i (rd_T36 l (i - b - 1)).f0 snap).2.1, (instR b t x l i (rd_T36 l (i - b - 1)).f0 snap).2.2.1, (instR b t x l i (rd_T36 l (i - b - 1)).f0 snap).2.2.2, 0)) else (0, 0, ⟨#[]⟩, [], 1)
theorem compR_len (b t : Int) (x : ByteArray) (l : List S36) (i : Int) (snap : ByteArray) : (compR b t x l i snap).2.2.2.1.length ≤ l.length := by
  unfold compR
  repeat' split
  all_goals first | exact instR_len _ _ _ _ _ _ _ | simp
theorem comp_f (b t : Int) (x : ByteArray) (l : List S36) (i : Int) (snap : ByteArray) (hl : l.length < 5864062014805) (hb : 0 ≤ b) (hi : i < 18446744073709551616) : rlog_Compact.f b t x l i snap = some (compR b t x l i snap) := by
  unfold rlog_Compact.f compR
  rw [at_f b t x l i (by omega) hb hi]
  by_cases h0 : i ≤ b
  · rw [if_pos h0, if_pos h0]
    simp
  · rw [if_neg h0, if_neg h0]
    by_cases c : i - b ≤ l.length
    · rw [if_pos c, if_pos c]
      simp only [Option.bind_some, if_true]
      by_cases h4 : (snap.size : Int) > 4096
      · rw [if_pos h4, if_pos h4]
      · rw [if_neg h4, if_neg h4, if_pos (by omega), if_pos (by omega), inst_f b t x l i _ snap hl hb hi]
        rfl
    · rw [if_neg c, if_neg c]
      simp
theorem rcomp_f (b t : Int) (x : ByteArray) (l : List S36) (i : Int) (snap : ByteArray) (hl : l.length < 5864062014805) (hb : 0 ≤ b) (hb2 : b < 9223372036854775807) (hi : i < 18446744073709551616) : ferruleref05_Compact.f b t x l i snap = some (compR b t x l i snap) := by
  unfold ferruleref05_Compact.f compR
  by_cases h0 : i ≤ b
  · rw [if_pos h0]
    unfold ferruleref05_TermAt.f
    by_cases h1 : i = b
    · rw [if_pos h1]
      simp [h1]
    · rw [if_neg h1, if_pos (by omega)]
      simp [h1]
  · rw [if_neg h0, rterm_f b t x l i (by omega) hb h0 hi]
    have h1 : ¬ i = b := by omega
    by_cases c : i - b ≤ l.length
    · rw [if_pos c, if_pos c]
      simp only [Option.bind_some, if_true]
      rw [if_neg h1]
      by_cases h4 : (snap.size : Int) > 4096
      · rw [if_pos h4, if_pos h4]
      · rw [if_neg h4, if_neg h4, rinst_f b t x l i _ snap hl hb hi]
        rfl
    · rw [if_neg c, if_neg c]
      simp [h1]
theorem RlogInstalls : ferrulelaw05_RlogInstalls.Pure := by
  intro b t x l i term snap hq
  have hb := hq.1.1
  have hi := hq.2.1
  simp [Lit.wf, IntKind.min, IntKind.max, IntKind.signed, IntKind.bits] at hb hi
  have h1 : l.length * 24 ≤ 140737488351232 := hq.1.2.2.2.2.1
  refine ⟨l.length + 1, ?_⟩
  unfold ferrulelaw05_RlogInstalls.f
  show (some true).bind _ = _
  simp only [Option.bind_some]
  by_cases c1 : b > 4611686018427387903
  · rw [if_pos c1]
  · have a1 := instR_len b t x l i term snap
    have a2 := compR_len b t x l i snap
    rw [if_neg c1, inst_f b t x l i term snap (by omega) (by omega) (by omega), rinst_f b t x l i term snap (by omega) (by omega) (by omega)]
    simp only [Option.bind_some]
    rw [same_same _ _ _ _ (by omega) _ (by omega), comp_f b t x l i snap (by omega) (by omega) (by omega), rcomp_f b t x l i snap (by omega) (by omega) (by omega) (by omega)]
    simp only [Option.bind_some]
    rw [same_same _ _ _ _ (by omega) _ (by omega)]
    simp
end Go.Proofs.Ytbejichfgednhaa.Pure
