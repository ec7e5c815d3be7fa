/- A node's first voice counts, and others' stand as they were: proved of the printed function. Conditions: none. -/
import Derived.Test.YtbjeoaklpcbocaaDefBallotSays
namespace Go.Proofs.Ytbjeoaklpcbocaa.Pure
open Go.RowKit Go.Proofs.Ytbjeoaklpcbocaa.Pr Go.Proofs.YtbjeoaklpcbocaaW.PrintWords Go.Proofs.YtbjeoaklpcbocaaW.PrintLast Go.Proofs.YtbjeoaklpcbocaaW.PrintMore
set_option linter.unusedVariables false
theorem wrap64_in {x : Int} (h0 : -9223372036854775808 ≤ x) (h1 : x < 9223372036854775808) : wrap64 x = x := by
  simp [wrap64]
  omega
theorem wr_succ {j : Nat} (h : j < 4611686018427387904) : wrap64 ((j : Int) + 1) = ((j + 1 : Nat) : Int) := by rw [wrap64_in (by omega) (by omega)]; omega
theorem voices_loop (l : List S46) (hl : l.length < 4611686018427387904) (d : Nat) : ∀ i : Nat, i + d = l.length → Ev (fun k => ferruleref07_Voices.l0 k l l (i : Int)) true := by
  induction d with
  | zero =>
    intro i hi
    exact Ev.step (f := fun _ => some true) (fun k => by rw [ferruleref07_Voices.l0, if_neg (by omega)]) (Ev.now _)
  | succ d ih =>
    intro i hi
    refine Ev.step (fun k => ?_) (ih (i + 1) (by omega))
    rw [ferruleref07_Voices.l0, if_pos (by omega), if_pos (by omega), if_pos (by omega), if_neg (by simp), wr_succ (by omega)]
theorem voices_f (l : List S46) (hl : l.length < 4611686018427387904) : Ev (fun k => ferruleref07_Voices.f k l l) true := by
  unfold ferruleref07_Voices.f
  simp only [if_true]
  exact voices_loop l hl l.length 0 (by omega)
/-- What a node has said: 0: nothing. -/
def voiceR (i : Int) : List S46 → Int
  | [] => 0
  | x :: r => if x.f0 = i then (if x.f1 = true then 1 else 2) else voiceR i r
theorem voice_loop (l : List S46) (v : Int) (hl : l.length < 4611686018427387904) (d : Nat) : ∀ i : Nat, i + d = l.length → Ev (fun k => ferruleref07_voice.l0 k l v (i : Int)) (voiceR v (l.drop i)) := by
  induction d with
  | zero =>
    intro i hi
    rw [List.drop_of_length_le (by omega)]
    exact Ev.step (f := fun _ => some 0) (fun k => by rw [ferruleref07_voice.l0, if_neg (by omega)]) (Ev.now _)
  | succ d ih =>
    intro i hi
    rw [List.drop_eq_getElem_cons (by omega), ← rd_at l i (by omega)]
    unfold voiceR
    by_cases h : (rd_T46 l (i : Int)).f0 = v
    · rw [if_pos h]
      refine Ev.step (f := fun _ => some (if (rd_T46 l (i : Int)).f1 = true then 1 else 2)) (fun k => ?_) (Ev.now _)
      rw [ferruleref07_voice.l0, if_pos (by omega), if_pos (by omega), if_pos h]
      split <;> rfl
    · rw [if_neg h]
      refine Ev.step (fun k => ?_) (ih (i + 1) (by omega))
      rw [ferruleref07_voice.l0, if_pos (by omega), if_pos (by omega), if_neg h, wr_succ (by omega)]
theorem voice_none (v : Int) : ∀ (l : List S46) (i : Nat), voiceR v l = 0 ↔ ¬ 0 ≤ idxN (sameId v) l i
  | [], i => by simp [voiceR, idxN]
  | x :: r, i => by
    unfold voiceR idxN sameId
    by_cases h : x.f0 = v
    · rw [if_pos h, if_pos (beq_iff_eq.2 h)]
      constructor
      · intro h1
        split at h1 <;> cases h1
      · intro h1
        omega
    · rw [if_neg h, if_neg (fun e => h (beq_iff_eq.1 e))]
      exact voice_none v r (i + 1)
theorem BallotSays : ferrulelaw07_BallotSays.Pure := by
  intro l v y ⟨h1, h2, h3⟩ _
  refine Ev.rounds ?_
  unfold ferrulelaw07_BallotSays.f
  show Ev (fun k => (some true).bind _) true
  simp only [Option.bind_some]
  unfold ballot_Say.f ferruleref07_Say.f
  rw [if_pos (by omega)]
  simp only [Option.bind_some, List.nil_append, List.length_nil, Nat.zero_add]
  simp only [if_pos (show l.length < 8796093022208 by omega)]
  have hv := voice_loop l v (by omega) l.length 0 (by omega)
  rw [List.drop_zero] at hv
  by_cases hi : 0 ≤ idxN (sameId v) l 0
  · simp only [if_pos hi]
    have h0 : ¬ voiceR v l = 0 := fun e => (voice_none v l 0).1 e hi
    refine Ev.bind (Ev.bind hv (r := l) (Ev.congr (f := fun _ => some l) (fun k => by rw [if_neg h0]) (Ev.now _))) ?_
    refine Ev.bind (voices_f l (by omega)) ?_
    exact Ev.now true
  · simp only [if_neg hi]
    have h0 : voiceR v l = 0 := (voice_none v l 0).2 hi
    refine Ev.bind (Ev.bind hv (r := l ++ [⟨v, y⟩]) (Ev.congr (f := fun _ => some (l ++ [⟨v, y⟩])) (fun k => by rw [if_pos h0]) (Ev.now _))) ?_
    refine Ev.bind (voices_f _ (by simp; omega)) ?_
    exact Ev.now true
end Go.Proofs.Ytbjeoaklpcbocaa.Pure
