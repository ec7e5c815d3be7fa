/- An order of one transaction changes no other one's deal: proved of the printed function. Conditions: none. -/
import Derived.Test.YtdlkpejlkijgcaaDefCoordApart
import Derived.Test.YtdlkpejlkijgcaaCoordF
import Derived.Test.YtdlkpejlkijgcaaCoordR
namespace Go.Proofs.Ytdlkpejlkijgcaa.Pr
open Go.RowKit Go.Proofs.YtdlkpejlkijgcaaW.PrintWords Go.Proofs.YtdlkpejlkijgcaaW.PrintLast Go.Proofs.YtdlkpejlkijgcaaW.PrintMore
set_option linter.unusedVariables false
set_option linter.unusedSimpArgs false
theorem same1_l (l : List Int) (hl : l.length < 4611686018427387904) (d : Nat) : ∀ j : Nat, j + d = l.length → Ev (fun k => ferruleref01_Same.l0 k l l (j : Int)) true := by
  induction d with
  | zero =>
    intro j hj
    exact Ev.step (f := fun _ => some true) (fun k => by rw [ferruleref01_Same.l0, if_neg (by omega)]) (Ev.now true)
  | succ d ih =>
    intro j hj
    refine Ev.step (f := fun k => ferruleref01_Same.l0 k l l ((j + 1 : Nat) : Int)) (fun k => ?_) (ih (j + 1) (by omega))
    rw [ferruleref01_Same.l0, if_pos (by omega), if_pos (by omega), if_pos (by omega), if_pos rfl, wr_succ (by omega)]
theorem same1_ev (l : List Int) (hl : l.length < 4611686018427387904) : Ev (fun k => ferruleref01_Same.f k l l) true := by
  refine Ev.congr (f := fun k => ferruleref01_Same.l0 k l l ((0 : Nat) : Int)) (fun k => ?_) (same1_l l hl l.length 0 (by omega))
  unfold ferruleref01_Same.f
  rw [if_pos rfl]
  rfl
theorem same14_l (l : List S42) (hl : l.length < 4611686018427387904) (hp : ∀ d, d ∈ l → d.f1.length < 17592186044416) (d : Nat) : ∀ j : Nat, j + d = l.length → Ev (fun k => ferruleref14_Same.l0 k (j : Int) l l) true := by
  induction d with
  | zero =>
    intro j hj
    exact Ev.step (f := fun _ => some true) (fun k => by rw [ferruleref14_Same.l0, if_neg (by omega)]) (Ev.now true)
  | succ d ih =>
    intro j hj
    have hjl : j < l.length := by omega
    have hr : rd_T42 l (j : Int) = l[j] := rd_lt hjl
    have h1 := hp _ (List.getElem_mem hjl)
    rw [← hr] at h1
    refine Ev.step (f := fun k => (ferruleref01_Same.f k (rd_T42 l (j : Int)).f1 (rd_T42 l (j : Int)).f1).bind fun t => if t = true then ferruleref14_Same.l0 k ((j + 1 : Nat) : Int) l l else some false) (fun k => ?_) ?_
    · rw [ferruleref14_Same.l0, if_pos (by omega), if_pos (by omega), if_pos (by omega), wr_succ (by omega)]
      congr 1
      funext t
      simp
    · refine Ev.bind (same1_ev _ (by omega)) ?_
      simpa using ih (j + 1) (by omega)
theorem same14_ev (l : List S42) (hl : l.length < 4611686018427387904) (hp : ∀ d, d ∈ l → d.f1.length < 17592186044416) : Ev (fun k => ferruleref14_Same.f k l l) true := by
  refine Ev.congr (f := fun k => ferruleref14_Same.l0 k ((0 : Nat) : Int) l l) (fun k => ?_) (same14_l l hl hp l.length 0 (by omega))
  unfold ferruleref14_Same.f
  rw [if_pos rfl]
  rfl
end Go.Proofs.Ytdlkpejlkijgcaa.Pr
namespace Go.Proofs.Ytdlkpejlkijgcaa.Pure
open Go.RowKit Go.Proofs.Ytdlkpejlkijgcaa.Pr Go.Proofs.YtdlkpejlkijgcaaW.PrintWords Go.Proofs.YtdlkpejlkijgcaaW.PrintLast Go.Proofs.YtdlkpejlkijgcaaW.PrintMore
theorem CoordApart : ferrulelaw14_CoordApart.Pure := by
  intro l a1_0 a1_1 a1_2 a1_3 l1_4 a1_5 l1_6 a2_0 a2_1 ⟨h1, h2, hq⟩ hq38 hq34
  have hlen : l.length < 2932031007400 := by
    have : l.length * 48 ≤ 140737488351232 := h2
    omega
  have hparts : ∀ d, d ∈ l → d.f1.length < 17592186044416 := by
    intro d hd
    have h : d.f1.length * 8 ≤ 140737488351232 := (hq d hd).2.1.2.1
    omega
  have hok : okAll l = true := by
    unfold okAll
    rw [List.all_eq_true]
    intro d hd
    exact (okB_iff _).2 (hq d hd).1
  have hy : okB ⟨a1_1, a1_2⟩ = true := (okB_iff _).2 hq38.2.1
  have hp6 : l1_6.length < 4611686018427387904 := by
    have h : l1_6.length * 8 ≤ 140737488351232 := hq38.2.2.2.2.2.2.1
    omega
  have hdo := do_ev l ⟨a1_0, ⟨a1_1, a1_2⟩, a1_3, l1_4, a1_5, l1_6⟩ hlen hok hy hp6 hparts
  obtain ⟨o, ho⟩ : ∃ o : S38, o = ⟨a1_0, ⟨a1_1, a1_2⟩, a1_3, l1_4, a1_5, l1_6⟩ := ⟨_, rfl⟩
  replace hdo : Ev (fun k => coord_Do.f k l a1_0 a1_1 a1_2 a1_3 l1_4 a1_5 l1_6) (doR l o) := by rw [ho]; exact hdo
  refine Ev.rounds ?_
  unfold ferrulelaw14_CoordApart.f ferrulelaw14_shown.f
  simp only [Option.bind_some]
  refine Ev.bind hdo ?_
  by_cases he : (doR l o).2.1 = 0
  · simp only [if_pos he]
    by_cases hT : (a1_1 == a2_0 && (a1_2 == a2_1)) = true
    · simp only [if_pos hT]
      exact Ev.now true
    · simp only [if_neg hT]
      have hne : o.f1 ≠ ⟨a2_0, a2_1⟩ := by
        rw [ho]
        intro h
        injection h with e1 e2
        exact hT (by simp [e1, e2])
      obtain ⟨hk1, hk2, hk3⟩ := doR_kept (l := l) hne
      have hl2 : (doR l o).1.length < 4611686018427387904 := by omega
      refine Ev.bind (find_ev l a2_0 a2_1 (by omega)) ?_
      refine Ev.bind (find_ev (doR l o).1 a2_0 a2_1 hl2) ?_
      have hf : findR (doR l o).1 ⟨a2_0, a2_1⟩ = findR l ⟨a2_0, a2_1⟩ := by rw [findR_dl, findR_dl, hk1]
      simp only [hf]
      have hfl : (findR l ⟨a2_0, a2_1⟩).2.2.1.length < 4611686018427387904 := by
        unfold findR
        cases hp : plc l ⟨a2_0, a2_1⟩ with
        | none => simp
        | some i =>
          obtain ⟨j, rfl, hj, _⟩ := plc_some hp
          dsimp only
          rw [rd_lt hj]
          have := hparts _ (List.getElem_mem hj)
          omega
      refine Ev.bind (same1_ev _ hfl) ?_
      refine Ev.congr (f := fun _ => some true) (fun k => ?_) (Ev.now true)
      rw [if_pos True.intro, if_pos (by simp), if_pos rfl, if_pos True.intro, decide_eq_true (show ((doR l o).1.length : Int) ≥ (l.length : Int) by omega)]
  · simp only [if_neg he, doR_err he]
    refine Ev.bind (same14_ev l (by omega) hparts) ?_
    exact Ev.congr (f := fun _ => some true) (fun k => by rw [if_pos True.intro]) (Ev.now true)
end Go.Proofs.Ytdlkpejlkijgcaa.Pure
