/- Several texts of one depth, laid together. Conditions: none. -/
import Derived.Test.YtfjhlcbpogihmaaGPostBackPr61
import Derived.Test.YtfjhlcbpogihmaaKPostBack1
import Derived.Test.YtfjhlcbpogihmaaKPostBack4
namespace Go.Proofs.Ytfjhlcbpogihmaa.Pr
open Go.RowKit Go.Proofs.YtfjhlcbpogihmaaW.PrintWords Go.Proofs.YtfjhlcbpogihmaaW.PrintLast Go.Proofs.YtfjhlcbpogihmaaW.PrintMore
def ferrulelaw17_PostBack.Pure : Prop := ∀ (a0_0 : Int) (a0_1 : Int) (a0_2 : Int) (a0_3 : Int) (a0_4 : Int) (a0_5 : Int) (a0_6 : Int) (a0_7 : Bool) (l0_8 : List (S75)) (a0_9 : ByteArray) (a1 : Int), q57 (⟨a0_0, a0_1, a0_2, a0_3, a0_4, a0_5, a0_6, a0_7, l0_8, a0_9⟩ : S57) → ((Lit.int .i64 a1).wf = true) → ∃ k, ferrulelaw17_PostBack.f k a0_0 a0_1 a0_2 a0_3 a0_4 a0_5 a0_6 a0_7 l0_8 a0_9 a1 = some true
end Go.Proofs.Ytfjhlcbpogihmaa.Pr
namespace Go.Proofs.Ytfjhlcbpogihmaa.Pure
open Go.RowKit Go.Proofs.Ytfjhlcbpogihmaa.Pr Go.Proofs.YtfjhlcbpogihmaaW.PrintWords Go.Proofs.YtfjhlcbpogihmaaW.PrintLast Go.Proofs.YtfjhlcbpogihmaaW.PrintMore
theorem none_told (x : ByteArray) : Ev (fun k => post_Take.j0 k x true) (told noMB) := Ev.step (f := fun _ => some (told noMB)) (fun k => by rw [post_Take.j0, if_pos rfl]; rfl) (Ev.now _)
theorem PostBack : ferrulelaw17_PostBack.Pure := by
  intro a0 a1 a2 a3 a4 a5 a6 a7 a8 a9 cut ha _
  obtain ⟨_, _, _, w3, w4, w5, w6, _, ⟨hl, hl2, hq⟩, _⟩ := ha
  dsimp only at hl hl2 hq w3 w4 w5 w6
  have g3 := (inU64_wf w3).1
  have g4 := (inU64_wf w4).1
  have g5 := (inU64_wf w5).1
  have g6 := (inU64_wf w6).1
  have g8 : ∀ e ∈ a8, 0 ≤ e.f0 := fun e he => (inU64_wf (hq e he).1).1
  refine Ev.rounds ?_
  unfold ferrulelaw17_PostBack.f
  rw [pshown_true]
  simp only [Option.bind_some]
  by_cases h : mayB a0 a1 a2 a3 a4 a5 a6 a7 a8 a9 = true
  rotate_left
  · rw [bytes_no1 h]
    rw [Bool.not_eq_true] at h
    simp only [Option.bind_some, post_May.f, h]
    exact ⟨0, fun k _ => by simp⟩
  obtain ⟨_, _, _, _, _, _, _, p7, p8, p9⟩ := may_facts h
  have hz := bodyA_le (kd := a0) (f := a1) (t := a2) (tm := a3) (i := a4) (lt := a5) (cm := a6) (ok := a7) p7 p8 p9
  have hbz := sealB_size (bodyA a0 a1 a2 a3 a4 a5 a6 a7 a8 a9)
  have hsz := sizeI_cases ((bodyA a0 a1 a2 a3 a4 a5 a6 a7 a8 a9).size : Int)
  have hin := body_back h g3 g4 g5 g6 g8
  rw [bytes_1 h g3 g4 g5 g6 g8]
  generalize bodyA a0 a1 a2 a3 a4 a5 a6 a7 a8 a9 = B at hz hbz hsz hin
  simp only [Option.bind_some, if_true]
  have s1 : Ev (fun k => seal_Take.f k (sealB B)) (B, ⟨#[]⟩, 0) := by
    have := Ev.of (fun k => seal_Take.mono _ k) (take_sealed B ⟨#[]⟩ hz (by decide))
    rw [ba_nil] at this
    exact this
  have t1 : Ev (fun k => post_Take.f k (sealB B)) (a0, a1, a2, a3, a4, a5, a6, a7, a8, a9, 0) := by
    unfold post_Take.f
    refine Ev.bind s1 ?_
    simp only [if_true]
    refine Ev.step (f := fun k => (post_take.f k B).bind fun bt576 => (if bt576.2.2.2.2.2.2.2.2.2.2 = true then (some (bt576.1, bt576.2.1, bt576.2.2.1, bt576.2.2.2.1, bt576.2.2.2.2.1, bt576.2.2.2.2.2.1, bt576.2.2.2.2.2.2.1, bt576.2.2.2.2.2.2.2.1, bt576.2.2.2.2.2.2.2.2.1, bt576.2.2.2.2.2.2.2.2.2.1, 0)) else (some (0, 0, 0, 0, 0, 0, 0, false, ([] : List (S75)), (⟨#[]⟩ : ByteArray), 3)))) (fun k => by rw [post_Take.j0, if_neg (by rw [bne_iff_ne]; exact fun c => c (toList_nil.2 rfl))]) ?_
    refine Ev.bind hin ?_
    exact Ev.now _
  have t2 : Ev (fun k => post_Take.f k (sealB B ++ (⟨#[120]⟩ : ByteArray))) (told noMB) := by
    unfold post_Take.f
    refine Ev.bind (Ev.of (fun k => seal_Take.mono _ k) (take_sealed B ⟨#[120]⟩ hz (by decide))) ?_
    simp only [if_true]
    refine Ev.congr (f := fun k => post_Take.j0 k B true) (fun k => ?_) (none_told B)
    rw [show ((⟨#[120]⟩ : ByteArray).toList != ([] : List UInt8)) = true from bne_iff_ne.2 (fun c => by have := toList_nil.1 c; cases this)]
  have last : Ev (fun k => ferrulelaw17_PostBack.j0 k cut true (sealB B) false) true := by
    by_cases c0 : cut < 0
    · exact Ev.step (f := fun _ => some true) (fun k => by rw [ferrulelaw17_PostBack.j0, if_neg (by decide), if_pos c0]) (Ev.now true)
    by_cases c1 : cut ≥ ((sealB B).size : Int)
    · exact Ev.step (f := fun _ => some true) (fun k => by rw [ferrulelaw17_PostBack.j0, if_neg (by decide), if_neg c0, if_pos c1]) (Ev.now true)
    refine Ev.step (f := fun k => (post_Take.f k ((sealB B).extract 0 cut.toNat)).bind fun bt694 => some (bt694.2.2.2.2.2.2.2.2.2.2 == 3)) (fun k => by rw [ferrulelaw17_PostBack.j0, if_neg (by decide), if_neg c0, if_neg c1, if_pos (by omega), if_pos (by omega)]; simp only [if_true]) ?_
    refine Ev.bind (a := told noMB) ?_ (Ev.now _)
    unfold post_Take.f
    refine Ev.bind (Ev.of (fun k => seal_Take.mono _ k) (take_cut B hz cut.toNat (by omega))) ?_
    simp only [if_neg (show ¬ (2 : Int) = 0 by decide)]
    exact none_told _
  refine Ev.bind t1 ?_
  refine Ev.bind (a := true) ⟨a8.length + 1, fun k hk => ?_⟩ ?_
  · dsimp only
    rw [same_2 _ _ _ _ _ _ _ _ _ _ _ _ _ _ _ _ _ _ _ _ (by omega) _ (by omega), sameM_self]
  simp only [if_pos (show (sealB B).size + 1 ≤ 9223372036854775807 by omega)]
  refine Ev.bind t2 ?_
  simp only [if_true]
  exact last
end Go.Proofs.Ytfjhlcbpogihmaa.Pure
