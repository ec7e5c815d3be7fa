/- Sealed texts one behind the other are told in their order, and then what is sealed in what follows: proved of the printed function. Conditions: none. -/
import Derived.Test.YtkkkpmobdaebgaaDefSealJoins
import Derived.Test.YtkkkpmobdaebgaaSealA
namespace Go.Proofs.Ytkkkpmobdaebgaa.Pr
open Go.RowKit Go.Proofs.YtkkkpmobdaebgaaW.PrintWords Go.Proofs.YtkkkpmobdaebgaaW.PrintLast Go.Proofs.YtkkkpmobdaebgaaW.PrintMore
set_option linter.unusedVariables false
set_option linter.unusedSimpArgs false
theorem joins_end (l : List ByteArray) (more : ByteArray) (hl : l.length ≤ 8796093022208) (hm : more.size ≤ 140737488351232) (hs : ∀ s ∈ l, s.size ≤ 65536) : joinsEnd 20 l more (joinB l) = some true := by
  have hj := joinB_size l hs
  obtain ⟨L2, h2, hl2⟩ := allF_total (more.size + 1) more (by omega) (by omega)
  obtain ⟨L, h1, hl1⟩ := allF_total ((joinB l ++ more).size + 1) (joinB l ++ more) (by omega) (by rw [ByteArray.size_append]; omega)
  have h3 := allF_join more (more.size + 1) L2 h2 l hs (by omega)
  have e : L = l ++ L2 := by
    have a1 := allF_up 20 _ _ (Nat.le_max_left _ (more.size + 1 + l.length)) h1
    have a2 := allF_up 20 _ _ (Nat.le_max_right ((joinB l ++ more).size + 1) (more.size + 1 + l.length)) h3
    rw [a1] at a2
    exact Option.some.inj a2
  unfold joinsEnd
  rw [if_pos (by omega), h1]
  simp only [Option.bind_some]
  rw [if_pos ⟨by rw [e]; simp, by rw [e, List.length_append]; omega⟩, h2]
  simp only [Option.bind_some]
  rw [e, wholeN_eq, wholeN_eq, sumW_app, wrap64_add', sumW_join l hs]
  simp
theorem joins_all (l : List ByteArray) (more : ByteArray) (hl : l.length ≤ 8796093022208) (hm : more.size ≤ 140737488351232) : ∀ (r p : List ByteArray), l = p ++ r → (∀ s ∈ p, s.size ≤ 65536) → joinsF 20 l more r (joinB p) = some true
  | [], p, e, hp => by
    rw [List.append_nil] at e
    subst e
    exact joins_end l more hl hm hp
  | s :: r, p, e, hp => by
    have hj := joinB_size p hp
    have hlen : l.length = p.length + (r.length + 1) := by rw [e, List.length_append, List.length_cons]
    unfold joinsF
    by_cases h : s.size ≤ 65536
    · have hput : seal_Put.f s = some (sealB s, 0) := put_f h
      have hz := sealB_size s
      have hc := sizeI_cases (s.size : Int)
      rw [hput]
      simp only [Option.bind_some, if_true]
      rw [if_pos (by omega), ← joinB_snoc]
      refine joins_all l more hl hm r (p ++ [s]) (by rw [e]; simp) (fun x hx => ?_)
      rcases List.mem_append.mp hx with hx | hx
      · exact hp x hx
      · rw [List.mem_singleton.mp hx]; exact h
    · rw [put_big h]
      rfl
end Go.Proofs.Ytkkkpmobdaebgaa.Pr
namespace Go.Proofs.Ytkkkpmobdaebgaa.Pure
open Go.RowKit Go.Proofs.Ytkkkpmobdaebgaa.Pr Go.Proofs.YtkkkpmobdaebgaaW.PrintWords Go.Proofs.YtkkkpmobdaebgaaW.PrintLast Go.Proofs.YtkkkpmobdaebgaaW.PrintMore
theorem SealJoins : ferrulelaw02_SealJoins.Pure := by
  rintro l more ⟨_, hl, _⟩ hm
  refine ⟨20, ?_⟩
  unfold ferrulelaw02_SealJoins.f
  rw [shown_true]
  simp only [Option.bind_some]
  rw [if_pos ⟨True.intro, by omega⟩]
  exact joins_all l more (by omega) hm l [] rfl (fun s hs => by simp at hs)
end Go.Proofs.Ytkkkpmobdaebgaa.Pure
