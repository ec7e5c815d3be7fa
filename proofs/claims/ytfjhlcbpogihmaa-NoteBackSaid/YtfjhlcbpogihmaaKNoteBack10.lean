/- Several texts of one depth, laid together. Conditions: none. -/
import Derived.Test.YtfjhlcbpogihmaaGNoteBackPr27
import Derived.Test.YtfjhlcbpogihmaaKNoteBack3
import Derived.Test.YtfjhlcbpogihmaaGNoteBackNoteY
section
namespace Go.Proofs.Ytfjhlcbpogihmaa.Pr
open Go.RowKit Go.Proofs.YtfjhlcbpogihmaaW.PrintWords Go.Proofs.YtfjhlcbpogihmaaW.PrintLast Go.Proofs.YtfjhlcbpogihmaaW.PrintMore
def ferrulelaw04_NoteBack.Pure : Prop := ∀ (a0_0 : Int) (a0_1 : Int) (a0_2 : Int) (a0_3 : Int) (a0_4 : ByteArray) (l0_5 : List (S75)), q30 (⟨a0_0, a0_1, (⟨a0_2, a0_3, a0_4, l0_5⟩ : S28)⟩ : S30) → ∃ k, ferrulelaw04_NoteBack.f k a0_0 a0_1 a0_2 a0_3 a0_4 l0_5 = some true
end Go.Proofs.Ytfjhlcbpogihmaa.Pr
end
section
namespace Go.Proofs.Ytfjhlcbpogihmaa.Pure
open Go.RowKit Go.Proofs.Ytfjhlcbpogihmaa.Pr Go.Proofs.YtfjhlcbpogihmaaW.PrintWords Go.Proofs.YtfjhlcbpogihmaaW.PrintLast Go.Proofs.YtfjhlcbpogihmaaW.PrintMore
theorem u64_nb {x : Int} (h : (Lit.int .u64 x).wf = true) : 0 ≤ x := by
  simp [Lit.wf, IntKind.min, IntKind.max, IntKind.signed, IntKind.bits] at h
  omega
theorem NoteBack : ferrulelaw04_NoteBack.Pure := by
  intro t v b bt s es hq
  obtain ⟨ht, hv, hb, hbt, hs, hl, hl2, _⟩ := hq
  dsimp only at ht hv hb hbt hs hl hl2
  have t0 := u64_nb ht
  have v0 := u64_nb hv
  have b0 := u64_nb hb
  have bt0 := u64_nb hbt
  have hM : Ev (fun k => ferruleref04_May.f k t v b bt s es) (mayS t v b bt s es) := ⟨es.length + 5, fun k hk => may_r t v b bt s es (by omega) b0 bt0 k (by omega)⟩
  have hL : Ev (fun k => note_Least.f k t v b bt s es) (if mayS t v b bt s es = true then (leastN t v b bt s es, 0) else ([], 1)) := ⟨es.length + 5, fun k hk => least_n t v b bt s es (by omega) b0 bt0 k (by omega)⟩
  refine Ev.rounds ?_
  unfold ferrulelaw04_NoteBack.f
  rw [shown_true]
  simp only [Option.bind_some]
  refine Ev.bind hM (Ev.bind hL ?_)
  cases hm : mayS t v b bt s es with
  | false =>
    refine Ev.congr (f := fun _ => some true) (fun k => ?_) (Ev.now _)
    simp
  | true =>
    obtain ⟨_, _, _, hle, _⟩ := mayS_facts hm
    have hok := least_ok hm t0 v0 b0 bt0
    have hfl := fold_least hm b0 bt0
    have hlen := least_len (t := t) (v := v) (b := b) (bt := bt) (s := s) (es := es)
    have hF : note_Fold.f (leastN t v b bt s es) = some (t, v, b, bt, s, es) := by
      rw [fold_1 hok (by omega), hfl]
      rfl
    have hS : Ev (fun k => ferruleref04_Same.f k t v b bt s es t v b bt s es) true := ⟨es.length + 3, fun k hk => same_self _ _ _ _ _ _ (by omega) k (by omega)⟩
    have hmax := join_max _ hok
    have hmin := joinN_len _ hok
    have hpos : 1 ≤ (leastN t v b bt s es).length := by
      unfold leastN
      rw [List.length_append]
      split <;> simp <;> omega
    have hne : (joinN (leastN t v b bt s es)).data.toList ≠ [] := fun e => by
      have h1 := dlen (joinN (leastN t v b bt s es))
      rw [e, List.length_nil] at h1
      omega
    have hC : ∀ k, es.length + 4 < k → note_Compact.f k ⟨#[]⟩ ⟨#[]⟩ (-1) false t v b bt s es = tape_Install.f ⟨#[]⟩ ⟨#[]⟩ (-1) false (joinN (leastN t v b bt s es)) := fun k hk => by
      unfold note_Compact.f
      rw [least_n t v b bt s es (by omega) b0 bt0 k hk, if_pos hm]
      simp only [Option.bind_some]
      rw [if_pos trivial, if_pos (by omega), compF_join k _ [] hok (by rw [List.length_nil]; omega)]
      simp only [Option.bind_some, List.nil_append]
      rw [if_pos hne, mk_self]
    have hz : (⟨#[]⟩ : ByteArray).size = 0 := rfl
    simp only [if_true, hF, Option.bind_some]
    refine Ev.bind hS ?_
    by_cases hbig : ((joinN (leastN t v b bt s es)).size : Int) > 262144
    · have hC2 : Ev (fun k => note_Compact.f k ⟨#[]⟩ ⟨#[]⟩ (-1) false t v b bt s es) (⟨#[]⟩, ⟨#[]⟩, -1, false, 5) := ⟨es.length + 5, fun k hk => by
        refine (hC k (by omega)).trans ?_
        unfold tape_Install.f
        rw [if_pos (by omega), if_neg (by decide), if_pos hbig]⟩
      refine Ev.bind hC2 ?_
      refine Ev.congr (f := fun _ => some true) (fun k => ?_) (Ev.now _)
      simp
    · have hC2 : Ev (fun k => note_Compact.f k ⟨#[]⟩ ⟨#[]⟩ (-1) false t v b bt s es) (joinN (leastN t v b bt s es), ⟨#[]⟩, -1, false, 0) := ⟨es.length + 5, fun k hk => by
        refine (hC k (by omega)).trans ?_
        unfold tape_Install.f
        rw [if_pos (by omega), if_neg (by decide), if_neg hbig, if_neg (by decide), if_neg (by decide)]⟩
      have hR := recover_all _ (joinN (leastN t v b bt s es)) ⟨#[]⟩ hok (by omega) (by omega) ByteArray.append_empty
      rw [hfl] at hR
      refine Ev.bind hC2 ?_
      simp only [if_true]
      refine Ev.bind hR (Ev.bind hS ?_)
      refine Ev.congr (f := fun _ => some true) (fun k => ?_) (Ev.now _)
      simp
end Go.Proofs.Ytfjhlcbpogihmaa.Pure
end
