/- A transaction's deal, and which coordinators are right, or the same: proved of the printed function. Conditions: none. -/
import Derived.Test.YtdlkpejlkijgcaaDefCoordFinds
import Derived.Test.YtdlkpejlkijgcaaHandRight
import Derived.Test.YtdlkpejlkijgcaaCoordI
import Derived.Test.YtdlkpejlkijgcaaCoordR
import Derived.Test.YtdlkpejlkijgcaaPr16
namespace Go.Proofs.Ytdlkpejlkijgcaa.Pr
open Go.RowKit Go.Proofs.YtdlkpejlkijgcaaW.PrintWords Go.Proofs.YtdlkpejlkijgcaaW.PrintLast Go.Proofs.YtdlkpejlkijgcaaW.PrintMore
set_option linter.unusedVariables false
set_option linter.unusedSimpArgs false
/-- No later deal has this one's transaction. -/
def Alone (xs : List S42) (j N : Nat) : Prop := ∀ m : Nat, j < m → m < N → (rd_T42 xs (m : Int)).f0 ≠ (rd_T42 xs (j : Int)).f0
theorem plP_count (xs : List S42) (N : Nat) : ∀ k, k ≤ N → (plP xs (downL N k)).2 ≤ k ∧ ((plP xs (downL N k)).2 = k ↔ ∀ j : Nat, N - k ≤ j → j < N → Alone xs j N)
  | 0, _ => ⟨by simp [downL, plP], ⟨fun _ j h1 h2 => by omega, fun _ => by simp [downL, plP]⟩⟩
  | k + 1, hk => by
    obtain ⟨h1, h2⟩ := plP_count xs N k (by omega)
    obtain ⟨g1, g2⟩ := plP_at xs N k (by omega) (rd_T42 xs ((N - 1 - k : Nat) : Int)).f0
    rw [downL_succ, plP_snoc]
    dsimp only
    cases hp : (plP xs (downL N k)).1 (rd_T42 xs ((N - 1 - k : Nat) : Int)).f0 with
    | some i =>
      rw [if_pos (by rfl)]
      obtain ⟨j, _, a, b, c, _⟩ := g1 i hp
      refine ⟨by omega, ⟨fun h => by omega, fun h => ?_⟩⟩
      exact absurd c (h (N - 1 - k) (by omega) (by omega) j (by omega) b)
    | none =>
      rw [if_neg (by simp)]
      have g := g2 hp
      refine ⟨by omega, ⟨fun h j hj1 hj2 => ?_, fun h => ?_⟩⟩
      · by_cases hm : j = N - 1 - k
        · subst hm
          intro m ha hb
          exact g m (by omega) hb
        · exact h2.1 (by omega) j (by omega) hj2
      · have := h2.2 (fun j hj1 hj2 => h j (by omega) hj2)
        omega
theorem plN_iff (xs : List S42) : plN xs = xs.length ↔ ∀ j : Nat, j < xs.length → plcI xs (rd_T42 xs (j : Int)).f0 = (j : Int) := by
  have h := (plP_count xs xs.length xs.length (Nat.le_refl _)).2
  unfold plN
  rw [h]
  constructor
  · intro h j hj
    rw [plcI_some]
    refine plc_eq hj rfl (fun m hm e => ?_)
    exact h m (by omega) (by omega) j hm hj e.symm
  · intro h j _ hj m hm hmN e
    have h1 := h m hmN
    rw [plcI_some] at h1
    obtain ⟨q, e1, hq, hy, hall⟩ := plc_some h1
    exact hall j (by omega) e.symm
theorem bad_ev (x : S42) (hx : x.f1.length < 4611686018427387904) : Ev (fun k => badF k x) (!dealB x) := by
  unfold badF dealB
  by_cases h0 : x.f2 < 0
  · refine Ev.congr (f := fun _ => some true) (fun k => by rw [coord_Right_1.f, if_pos h0]) ?_
    rw [decide_eq_true h0]
    exact Ev.now _
  · by_cases h2 : x.f2 > 2
    · refine Ev.congr (f := fun _ => some true) (fun k => by rw [coord_Right_1.f, if_neg h0, if_pos h2]) ?_
      rw [decide_eq_true h2]
      simp only [Bool.not_true, Bool.false_and, Bool.and_false, Bool.not_false]
      exact Ev.now _
    · refine Ev.congr (f := fun k => (coord_may.f k x.f1).bind fun t338 => (if t338 = true then (some false) else (if (x.f1.length : Int) > 0 then (some true) else (some (x.f2 != 2))))) (fun k => by rw [coord_Right_1.f, if_neg h0, if_neg h2]) ?_
      refine Ev.bind (may_ev _ hx) ?_
      rw [decide_eq_false h0, decide_eq_false h2]
      simp only [Bool.not_false, Bool.true_and]
      cases hm : mayB x.f1 with
      | true => simpa using Ev.now false
      | false =>
        by_cases hl : (x.f1.length : Int) > 0
        · rw [decide_eq_true hl]
          simp only [hl]
          simpa using Ev.now true
        · rw [decide_eq_false hl]
          simp only [hl]
          by_cases h2 : x.f2 = 2
          · simpa [h2] using Ev.now false
          · have : (x.f2 != 2) = true := bne_iff_ne.mpr h2
            rw [this, decide_eq_false h2]
            exact Ev.now true
theorem all_ev {α : Type} (g : Nat → α → Option Bool) (v : α → Bool) : ∀ l : List α, (∀ x, x ∈ l → Ev (fun k => g k x) (v x)) → ∃ K, ∀ k, K ≤ k → ∀ x, x ∈ l → g k x = some (v x)
  | [], _ => ⟨0, fun _ _ x hx => by cases hx⟩
  | y :: l, h => by
    obtain ⟨K, hK⟩ := all_ev g v l (fun x hx => h x (List.mem_cons_of_mem _ hx))
    obtain ⟨K', hK'⟩ := h y (List.mem_cons_self ..)
    refine ⟨max K K', fun k hk x hx => ?_⟩
    rcases List.mem_cons.1 hx with rfl | hx
    · exact hK' k (by omega)
    · exact hK k (by omega) x hx
theorem coordRight_ev (l : List S42) (hok : okAll l = true) (hp : ∀ d, d ∈ l → d.f1.length < 17592186044416) : Ev (fun k => coord_Right.f k l) (rightB l) := by
  unfold coord_Right.f rightB
  by_cases h64 : 64 < l.length
  · rw [decide_eq_false (by omega)]
    simpa [h64] using Ev.now false
  · rw [decide_eq_true (by omega), Bool.true_and]
    simp only [if_neg h64, if_pos hok]
    by_cases hN : plN l = l.length
    · simp only [if_pos hN]
      obtain ⟨K, hK⟩ := all_ev (fun k x => badF k x) (fun x => !dealB x) l (fun x hx => bad_ev x (by have := hp x hx; omega))
      refine ⟨K, fun k hk => ?_⟩
      have h := hK k hk
      dsimp only
      rw [if_pos (by rw [List.all_eq_true]; intro x hx; rw [h x hx]; rfl)]
      congr 1
      rw [plN_iff] at hN
      rw [Bool.eq_iff_iff, List.all_eq_true, Bool.not_eq_true', List.any_eq_false]
      constructor
      · intro g j hj
        rw [List.mem_range'_1] at hj
        have hjl : j < l.length := by omega
        rw [rightAt_eq, decide_eq_true (hN j hjl), Bool.true_and, rd_lt hjl]
        have hm := List.getElem_mem hjl
        have := g _ hm
        unfold badB at this
        rw [h _ hm] at this
        simpa using this
      · intro g x hx
        obtain ⟨j, hj, e⟩ := List.getElem_of_mem hx
        have := g j (by rw [List.mem_range'_1]; omega)
        rw [rightAt_eq, Bool.and_eq_true, rd_lt hj, e] at this
        unfold badB
        rw [h x hx]
        simp [this.2]
    · simp only [if_neg hN]
      have : (List.range' 0 l.length).all (rightAt l) = false := by
        rw [Bool.eq_false_iff]
        intro g
        rw [List.all_eq_true] at g
        apply hN
        rw [plN_iff]
        intro j hj
        have := g j (by rw [List.mem_range'_1]; omega)
        rw [rightAt_eq, Bool.and_eq_true] at this
        exact of_decide_eq_true this.1
      rw [this]
      exact Ev.now false
/-- Are two deals the same? -/
def sameD (x y : S42) : Bool := decide (x.f0 = y.f0) && (decide (x.f2 = y.f2) && eqB x.f1 y.f1)
theorem s34_eq (x y : S34) : (x.f0 == y.f0 && (x.f1 == y.f1)) = decide (x = y) := by
  obtain ⟨a, b⟩ := x
  obtain ⟨c, d⟩ := y
  rw [Bool.eq_iff_iff]
  simp
theorem sameD_ev (x y : S42) (hx : x.f1.length < 4611686018427387904) : Ev (fun k => eqF k x y) (sameD x y) := by
  unfold eqF sameD
  refine Ev.congr (f := fun k => if decide (x.f0 = y.f0) = true then (if x.f2 = y.f2 then ((slices_Equal_uint64_uint64.f k x.f1 y.f1).bind fun t341 => (some t341)) else (some false)) else (some false)) (fun k => by rw [coord_Same_1.f, s34_eq]) ?_
  by_cases h0 : x.f0 = y.f0
  · by_cases h2 : x.f2 = y.f2
    · simp only [h0, h2, decide_true, if_true, Bool.true_and]
      exact Ev.bind (equal_ev _ _ hx) (Ev.now _)
    · simpa [h0, h2] using Ev.now false
  · simpa [h0] using Ev.now false
theorem same1_ev' (a b : List Int) (hl : a.length < 4611686018427387904) : Ev (fun k => ferruleref01_Same.f k a b) (eqB a b) := by
  unfold eqB
  by_cases hlen : a.length = b.length
  · have h : ∀ d j : Nat, j + d = a.length → Ev (fun k => ferruleref01_Same.l0 k a b (j : Int)) ((List.range' j d).all (fun j => decide (rd a (j : Int) = rd b (j : Int)))) := fun d => by
      induction d with
      | zero =>
        intro j hj
        have hs : ∀ k, ferruleref01_Same.l0 (k + 1) a b (j : Int) = some true := fun k => by rw [ferruleref01_Same.l0, if_neg (by omega)]
        simpa using Ev.step hs (Ev.now true)
      | succ d ih =>
        intro j hj
        have hs : ∀ k, ferruleref01_Same.l0 (k + 1) a b (j : Int) = if rd a (j : Int) = rd b (j : Int) then ferruleref01_Same.l0 k a b ((j + 1 : Nat) : Int) else some false := fun k => by
          rw [ferruleref01_Same.l0, if_pos (by omega), if_pos (by omega), if_pos (by omega), wr_succ (by omega)]
        refine Ev.step hs ?_
        rw [List.range'_succ, List.all_cons]
        by_cases he : rd a (j : Int) = rd b (j : Int)
        · simpa [he] using ih (j + 1) (by omega)
        · simpa [he] using Ev.now false
    refine Ev.congr (f := fun k => ferruleref01_Same.l0 k a b 0) (fun k => by rw [ferruleref01_Same.f, if_pos (by omega)]) ?_
    rw [decide_eq_true hlen, Bool.true_and]
    exact h a.length 0 (by omega)
  · refine Ev.congr (f := fun k => some false) (fun k => by rw [ferruleref01_Same.f, if_neg (by omega)]) ?_
    rw [decide_eq_false hlen, Bool.false_and]
    exact Ev.now false
theorem eqB_refl (a : List Int) : eqB a a = true := by simp [eqB]
/-- Are two coordinators the same? -/
def sameL (a b : List S42) : Bool := decide (a.length = b.length) && allP sameD a b 0 a.length
theorem coordSame_ev (a b : List S42) (hp : ∀ d, d ∈ a → d.f1.length < 17592186044416) : Ev (fun k => coord_Same.f k a b) (sameL a b) := by
  unfold coord_Same.f sameL
  by_cases hl : a.length = b.length
  · simp only [if_pos hl, decide_eq_true hl, Bool.true_and]
    obtain ⟨K, hK⟩ := all_ev (fun k (j : Nat) => eqF k (rd_T42 a (j : Int)) (rd_T42 b (j : Int))) (fun j => sameD (rd_T42 a (j : Int)) (rd_T42 b (j : Int))) (List.range' 0 a.length) (fun j hj => by
      rw [List.mem_range'_1] at hj
      refine sameD_ev _ _ ?_
      rw [rd_lt (show j < a.length by omega)]
      have := hp _ (List.getElem_mem (show j < a.length by omega))
      omega)
    refine ⟨K, fun k hk => ?_⟩
    have h := hK k hk
    dsimp only
    rw [if_pos (by unfold allP; rw [List.all_eq_true]; intro j hj; show (eqF k _ _).isSome = true; rw [h j hj]; rfl)]
    congr 1
    unfold allP
    rw [Bool.eq_iff_iff, List.all_eq_true, List.all_eq_true]
    constructor <;> intro g j hj <;> have g := g j hj
    · unfold eqD at g
      rw [h j hj] at g
      exact g
    · unfold eqD
      rw [h j hj]
      exact g
  · simp only [if_neg hl, decide_eq_false hl, Bool.false_and]
    exact Ev.now false
theorem ne_b (x y : S34) : (!(x.f0 == y.f0) || (!(x.f1 == y.f1))) = !decide (x = y) := by
  rw [← s34_eq, Bool.not_and]
theorem refSame_ev (a b : List S42) (hl : a.length < 4611686018427387904) (hp : ∀ d, d ∈ a → d.f1.length < 17592186044416) : Ev (fun k => ferruleref14_Same.f k a b) (sameL a b) := by
  unfold ferruleref14_Same.f sameL
  by_cases hlen : a.length = b.length
  · simp only [show (a.length : Int) = (b.length : Int) from by omega, if_true, decide_eq_true hlen, Bool.true_and]
    have h : ∀ d j : Nat, j + d = a.length → Ev (fun k => ferruleref14_Same.l0 k (j : Int) a b) (allP sameD a b j d) := fun d => by
      induction d with
      | zero =>
        intro j hj
        have hs : ∀ k, ferruleref14_Same.l0 (k + 1) (j : Int) a b = some true := fun k => by rw [ferruleref14_Same.l0, if_neg (by omega)]
        exact Ev.step hs (Ev.now true)
      | succ d ih =>
        intro j hj
        have hjl : j < a.length := by omega
        have h1 := hp _ (List.getElem_mem hjl)
        rw [← rd_lt hjl] at h1
        rw [allP_step]
        generalize hx : rd_T42 a (j : Int) = x at *
        generalize hy : rd_T42 b (j : Int) = y at *
        have hs : ∀ k, ferruleref14_Same.l0 (k + 1) (j : Int) a b = (ferruleref01_Same.f k x.f1 y.f1).bind fun t => if t = true then (if (!decide (x.f0 = y.f0)) = true then some false else if x.f2 = y.f2 then ferruleref14_Same.l0 k ((j + 1 : Nat) : Int) a b else some false) else some false := fun k => by
          rw [ferruleref14_Same.l0, if_pos (by omega), if_pos (by omega), if_pos (by omega), wr_succ (by omega), hx, hy]
          simp only [ne_b]
        refine Ev.step hs ?_
        refine Ev.bind (same1_ev' _ _ (by omega)) ?_
        rw [show sameD x y = (decide (x.f0 = y.f0) && (decide (x.f2 = y.f2) && eqB x.f1 y.f1)) from rfl]
        cases he : eqB x.f1 y.f1 with
        | false => simpa using Ev.now false
        | true =>
          by_cases h0 : x.f0 = y.f0
          · by_cases h2 : x.f2 = y.f2
            · simpa [h0, h2] using ih (j + 1) (by omega)
            · simpa [h0, h2] using Ev.now false
          · simpa [h0] using Ev.now false
    have := h a.length 0 (by omega)
    exact this
  · simp only [show ¬ (a.length : Int) = (b.length : Int) from by omega, if_false, decide_eq_false hlen, Bool.false_and]
    exact Ev.now false
end Go.Proofs.Ytdlkpejlkijgcaa.Pr

namespace Go.Proofs.Ytdlkpejlkijgcaa.Pure
open Go.RowKit Go.Proofs.Ytdlkpejlkijgcaa.Pr Go.Proofs.YtdlkpejlkijgcaaW.PrintWords Go.Proofs.YtdlkpejlkijgcaaW.PrintLast Go.Proofs.YtdlkpejlkijgcaaW.PrintMore
theorem CoordFinds : ferrulelaw14_CoordFinds.Pure := by
  intro l l' a b ⟨h1, h2, hq⟩ _ hq34
  have hlen : l.length < 2932031007400 := by
    have : l.length * 48 ≤ 140737488351232 := h2
    omega
  have hparts : ∀ d, d ∈ l → d.f1.length < 17592186044416 := by
    intro d hd
    have h : d.f1.length * 8 ≤ 140737488351232 := (hq d hd).2.1.2.1
    omega
  have hok : okAll l = true := by
    unfold okAll
    rw [List.all_eq_true]
    intro d hd
    exact (okB_iff _).2 (hq d hd).1
  have hy : okB ⟨a, b⟩ = true := (okB_iff _).2 hq34
  have hfl : (findR l ⟨a, b⟩).2.2.1.length < 17592186044416 := by
    unfold findR
    cases hp : plc l ⟨a, b⟩ with
    | none => simp
    | some i =>
      obtain ⟨j, rfl, hj, _⟩ := plc_some hp
      dsimp only
      rw [rd_lt hj]
      exact hparts _ (List.getElem_mem hj)
  have hf : coord_Find.f l a b = some (findR l ⟨a, b⟩) := by
    unfold coord_Find.f findR at *
    rw [if_pos (by rw [hok, hy]; rfl)]
    cases hp : plc l ⟨a, b⟩ with
    | none => rfl
    | some i =>
      rw [hp] at hfl
      dsimp only
      exact if_pos hfl
  refine Ev.rounds ?_
  unfold ferrulelaw14_CoordFinds.f ferrulelaw14_shown.f
  simp only [Option.bind_some, hf]
  refine Ev.bind (find_ev l a b (by omega)) ?_
  refine Ev.bind (same1_ev' _ _ (by omega)) ?_
  rw [eqB_refl]
  simp only [beq_self_eq_true, Bool.and_self, if_true]
  refine Ev.bind (coordRight_ev l hok hparts) ?_
  refine Ev.bind (right_ev l) ?_
  simp only [beq_self_eq_true, if_true]
  refine Ev.bind (coordSame_ev l l' hparts) ?_
  refine Ev.bind (refSame_ev l l' (by omega) hparts) ?_
  rw [beq_self_eq_true]
  exact Ev.now true
end Go.Proofs.Ytdlkpejlkijgcaa.Pure
