/- What was sealed is taken, whatever stands behind it; no beginning of it is a sealed text: proved of the printed function. Conditions: none. -/
import Derived.Test.YtkkkpmobdaebgaaDefSealBack
import Derived.Test.YtkkkpmobdaebgaaSealT
namespace Go.Proofs.Ytkkkpmobdaebgaa.Pr
open Go.RowKit Go.Proofs.YtkkkpmobdaebgaaW.PrintWords Go.Proofs.YtkkkpmobdaebgaaW.PrintLast Go.Proofs.YtkkkpmobdaebgaaW.PrintMore
set_option linter.unusedVariables false
set_option linter.unusedSimpArgs false
/-- A sealed text. -/
def sealB (s : ByteArray) : ByteArray := headB s ++ tailB (sumI (headB s))
theorem sealB_size (s : ByteArray) : ((sealB s).size : Int) = sizeI (s.size : Int) + s.size + 4 := by
  unfold sealB
  rw [ByteArray.size_append]
  have := headB_size s
  have := tailB_size (sumI (headB s))
  omega
/-- It is taken, whatever stands behind it. -/
theorem take_sealed (s more : ByteArray) (hs : s.size ≤ 65536) (hm : more.size ≤ 281474976710656) : seal_Take.f 20 (sealB s ++ more) = some (s, more, 0) := by
  have hz := sizeI_cases (s.size : Int)
  have hh := size_num (s.size : Int)
  obtain ⟨t, ht⟩ : ∃ t, tailB (sumI (headB s)) = t := ⟨_, rfl⟩
  have htz : t.size = 4 := by rw [← ht]; exact tailB_size _
  have e : sealB s ++ more = strOfNums (numL (s.size : Int)) ++ (s ++ (t ++ more)) := by
    unfold sealB headB
    rw [ba_assoc, ba_assoc]
    show _ ++ (s ++ (tailB (sumI (headB s)) ++ more)) = _
    rw [ht]
  rw [e, stake 20 _ _ s.size (take_back _ (by omega) (by omega)) hs (by rw [ByteArray.size_append, ByteArray.size_append, ByteArray.size_append]; omega)]
  have e1 : (s ++ (t ++ more)).extract 0 s.size = s := ByteArray.extract_append_eq_left rfl
  have e2 : (s ++ (t ++ more)).extract s.size (s.size + 4) = t := by
    have := ByteArray.extract_append_size_add (a := s) (b := t ++ more) (i := 0) (j := 4)
    rw [Nat.add_zero] at this
    rw [this, ← htz]
    exact ByteArray.extract_append_eq_left rfl
  have e3 : (s ++ (t ++ more)).extract (s.size + 4) (s ++ (t ++ more)).size = more := by
    have hsz : (s ++ (t ++ more)).size = s.size + (4 + more.size) := by rw [ByteArray.size_append, ByteArray.size_append, htz]
    rw [hsz, ByteArray.extract_append_size_add]
    exact ByteArray.extract_append_eq_right htz.symm (by rw [htz])
  rw [if_neg (by rw [ByteArray.size_append, ByteArray.size_append]; omega), e1, e2, e3]
  exact if_pos (show (tailB (sumI (headB s))).toList = t.toList by rw [ht])
/-- No beginning of it is one. -/
theorem take_cut (s : ByteArray) (hs : s.size ≤ 65536) (c : Nat) (hc : c < (sealB s).size) : seal_Take.f 20 ((sealB s).extract 0 c) = some ((⟨#[]⟩ : ByteArray), (⟨#[]⟩ : ByteArray), 2) := by
  have hz := sizeI_cases (s.size : Int)
  have hh := size_num (s.size : Int)
  have hbz := sealB_size s
  obtain ⟨t, ht⟩ : ∃ t, tailB (sumI (headB s)) = t := ⟨_, rfl⟩
  have htz : t.size = 4 := by rw [← ht]; exact tailB_size _
  have e : sealB s = strOfNums (numL (s.size : Int)) ++ (s ++ t) := by
    unfold sealB headB
    rw [ba_assoc]
    show _ ++ (s ++ tailB (sumI (headB s))) = _
    rw [ht]
  obtain ⟨hd, hhd⟩ : ∃ hd, strOfNums (numL (s.size : Int)) = hd := ⟨_, rfl⟩
  have hback : ∀ x, pack_TakeNum.f 20 (hd ++ x) = some ((s.size : Int), x, 0) := fun x => by rw [← hhd]; exact take_back _ (by omega) (by omega)
  rw [hhd] at e hh
  by_cases hcut : c < hd.size
  · rcases take_full (sealB s) with ⟨er, her, hf⟩ | ⟨m, v, hm1, hm8, hm, hf, hi, hv, hL, hshort⟩
    · rw [e, hback] at hf
      injection hf with hf
      injection hf with _ hf
      injection hf with _ hf
      exact absurd hf.symm her
    · have hf2 := hf
      rw [e, hback] at hf2
      injection hf2 with hf2
      injection hf2 with _ hf2
      injection hf2 with hf2 _
      have hsz : (s ++ t).size = ((hd ++ (s ++ t)).extract m (hd ++ (s ++ t)).size).size := by rw [← hf2]
      have hz2 : (hd ++ (s ++ t)).size = hd.size + (s.size + 4) := by rw [ByteArray.size_append, ByteArray.size_append, htz]
      have hz3 : (s ++ t).size = s.size + 4 := by rw [ByteArray.size_append, htz]
      rw [ByteArray.size_extract, hz2, hz3] at hsz
      rw [e, hz2] at hm
      have hT := hshort 20 c (by omega)
      unfold seal_Take.f
      rw [hT]
      simp
  · have e2 : (sealB s).extract 0 c = hd ++ (s ++ t).extract 0 (c - hd.size) := by
      rw [e, ByteArray.extract_append, ext_all (by omega), show 0 - hd.size = 0 from by omega]
    have hz3 : (s ++ t).size = s.size + 4 := by rw [ByteArray.size_append, htz]
    have hz4 : ((s ++ t).extract 0 (c - hd.size)).size ≤ c - hd.size := by rw [ByteArray.size_extract]; omega
    rw [e2, stake 20 hd _ s.size (hback _) hs (by rw [ByteArray.size_append]; omega), if_pos (by omega)]
end Go.Proofs.Ytkkkpmobdaebgaa.Pr
namespace Go.Proofs.Ytkkkpmobdaebgaa.Pure
open Go.RowKit Go.Proofs.Ytkkkpmobdaebgaa.Pr Go.Proofs.YtkkkpmobdaebgaaW.PrintWords Go.Proofs.YtkkkpmobdaebgaaW.PrintLast Go.Proofs.YtkkkpmobdaebgaaW.PrintMore
theorem SealBack : ferrulelaw02_SealBack.Pure := by
  intro s more cut hs hm _
  refine Ev.rounds ?_
  unfold ferrulelaw02_SealBack.f
  rw [shown_true]
  simp only [Option.bind_some]
  by_cases h : s.size ≤ 65536
  · have hz := sizeI_cases (s.size : Int)
    have hbz := sealB_size s
    have hput : seal_Put.f s = some (sealB s, 0) := put_f h
    rw [hput]
    simp only [Option.bind_some, if_true]
    simp only [if_pos (show (sealB s).size + more.size ≤ 9223372036854775807 by omega)]
    refine Ev.bind (Ev.of (fun k => seal_Take.mono _ k) (take_sealed s more h (by omega))) ?_
    simp only [if_true]
    have last : Ev (fun k => ferrulelaw02_SealBack.j1 k cut true (sealB s) (decide (cut < 0 ∨ cut ≥ ((sealB s).size : Int)))) true := by
      by_cases hc : cut < 0 ∨ cut ≥ ((sealB s).size : Int)
      · rw [decide_eq_true hc]
        exact Ev.step (f := fun _ => some true) (fun k => by rw [ferrulelaw02_SealBack.j1, if_pos rfl]) (Ev.now true)
      · rw [decide_eq_false hc]
        have hT := take_cut s h cut.toNat (by omega)
        refine Ev.step (f := fun k => (seal_Take.f k ((sealB s).extract 0 cut.toNat)).bind fun bt162 => (if bt162.2.2 = 2 then ((seal_Whole.f k ((sealB s).extract 0 cut.toNat)).bind fun t165 => (some (t165 == 0))) else (none))) (fun k => by rw [ferrulelaw02_SealBack.j1, if_neg (by decide), if_pos (by omega), if_pos (by omega)]; simp only [if_true]) ?_
        have hE := Ev.of (fun k => seal_Take.mono _ k) hT
        refine Ev.bind hE ?_
        simp only [if_true]
        have hW : Ev (fun k => seal_Whole.f k ((sealB s).extract 0 cut.toNat)) 0 := by
          unfold seal_Whole.f
          refine Ev.bind hE ?_
          exact Ev.congr (f := fun _ => some 0) (fun k => if_neg (by decide)) (Ev.now 0)
        exact Ev.bind hW (by simpa using Ev.now true)
    refine Ev.step (f := fun k => ferrulelaw02_SealBack.j1 k cut true (sealB s) (decide (cut < 0 ∨ cut ≥ ((sealB s).size : Int)))) (fun k => ?_) last
    rw [ferrulelaw02_SealBack.j0, if_neg (by decide)]
    by_cases h0 : cut < 0
    · rw [if_pos h0, decide_eq_true (Or.inl h0)]
    · rw [if_neg h0]
      by_cases h1 : cut ≥ ((sealB s).size : Int)
      · rw [decide_eq_true h1, decide_eq_true (Or.inr h1)]
      · rw [decide_eq_false h1, decide_eq_false (by rintro (h | h) <;> contradiction)]
  · rw [put_big h]
    simp only [Option.bind_some]
    refine Ev.congr (f := fun _ => some true) (fun k => ?_) (Ev.now true)
    rw [if_neg (by decide), if_pos True.intro, if_pos True.intro, if_pos (by omega)]
    exact congrArg some (by decide +kernel)
end Go.Proofs.Ytkkkpmobdaebgaa.Pure
