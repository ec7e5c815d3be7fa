/- A transaction is committed only if it was begun, and somebody decided so while nobody had said otherwise: proved of the printed function. Conditions: none. -/
import Derived.Test.YtdlkpejlkijgcaaDefCoordCommits
import Derived.Test.YtdlkpejlkijgcaaCoordO
namespace Go.Proofs.Ytdlkpejlkijgcaa.Pr
open Go.RowKit Go.Proofs.YtdlkpejlkijgcaaW.PrintWords Go.Proofs.YtdlkpejlkijgcaaW.PrintLast Go.Proofs.YtdlkpejlkijgcaaW.PrintMore
set_option linter.unusedVariables false
set_option linter.unusedSimpArgs false
def KK (s : Option Int) (b : Bool) (f : Int) : Prop := (s = none ∧ f = 0) ∨ (s = some 0 ∧ f = 0 ∧ b = true) ∨ (s = some 1 ∧ f = 2 ∧ b = true) ∨ (s = some 2 ∧ f = 1)
theorem rd38_lt {l : List S38} {j : Nat} (h : j < l.length) : rd_T38 l (j : Int) = l[j] := by
  unfold rd_T38
  simp [List.getD_eq_getElem?_getD, List.getElem?_eq_getElem h]
theorem ne_bool (x t : S34) : (!(x.f0 == t.f0) || !(x.f1 == t.f1)) = true ↔ x ≠ t := by
  obtain ⟨a, b⟩ := x
  obtain ⟨c, d⟩ := t
  simp
  constructor
  · rintro (h | h) e1 e2
    · exact h e1
    · exact h e2
  · intro h
    by_cases e : a = c
    · exact .inr (h e)
    · exact .inl e
theorem commits_l (l0 : List S38) (t : S34) (hq : ∀ y, y ∈ l0 → q38 y) (hl : l0.length < 4611686018427387904) (d : Nat) : ∀ (j : Nat) (l : List S42) (b : Bool) (f : Int), j + d = l0.length → Inv l → KK (stOf l t) b f →
    Ev (fun k => ferrulelaw14_CoordCommits.l0 k l0 true b f (j : Int) t.f0 t.f1 l) true := by
  induction d with
  | zero =>
    intro j l b f hj hI hK
    exact Ev.step (f := fun _ => some true) (fun k => by rw [ferrulelaw14_CoordCommits.l0, if_neg (by omega)]) (Ev.now true)
  | succ d ih =>
    intro j l b f hj hI hK
    have hjl : j < l0.length := by omega
    have hq1 := hq _ (List.getElem_mem hjl)
    rw [← rd38_lt hjl] at hq1
    generalize ho : rd_T38 l0 (j : Int) = o at hq1
    have hy : okB o.f1 = true := (okB_iff _).2 hq1.2.1
    have hI2 := inv_doR hI hy
    have hw : wrap64 ((j : Int) + 1) = ((j + 1 : Nat) : Int) := wr_succ (by omega)
    have h0j : (0 : Int) ≤ (j : Int) := by omega
    have hjl' : (j : Int) < (l0.length : Int) := by omega
    refine Ev.step (f := fun k => (coord_Do.f k l o.f0 o.f1.f0 o.f1.f1 o.f2 o.f3 o.f4 o.f5).bind fun bt => if (!(o.f1.f0 == t.f0) || (!(o.f1.f1 == t.f1))) = true then ferrulelaw14_CoordCommits.j1 k l0 true b f (j : Int) true t.f0 t.f1 bt.1 bt.2.1 bt.2.2.1 bt.2.2.2.1 bt.2.2.2.2.1 bt.2.2.2.2.2 else ferrulelaw14_CoordCommits.j1 k l0 true b f (j : Int) (bt.2.1 != 0) t.f0 t.f1 bt.1 bt.2.1 bt.2.2.1 bt.2.2.2.1 bt.2.2.2.2.1 bt.2.2.2.2.2) (fun k => ?_) ?_
    · rw [ferrulelaw14_CoordCommits.l0, if_pos (by omega), if_pos (by omega), ho]
    · refine Ev.bind (do_ev l o (by have := hI.len; omega) hI.ok hy (by have := hq1.2.2.2.2.2.2.1; omega) hI.parts) ?_
      have other : ∀ b' f', KK (stOf (doR l o).1 t) b' f' → Ev (fun k => ferrulelaw14_CoordCommits.l0 k l0 true b' f' (wrap64 ((j : Int) + 1)) t.f0 t.f1 (doR l o).1) true := fun b' f' h => by
        rw [hw]; exact ih (j + 1) _ b' f' (by omega) hI2 h
      by_cases hne : o.f1 = t
      rotate_left
      · simp only [if_pos ((ne_bool o.f1 t).2 hne)]
        exact Ev.step (f := fun k => ferrulelaw14_CoordCommits.l0 k l0 true b f (wrap64 ((j : Int) + 1)) t.f0 t.f1 (doR l o).1) (fun k => by rw [ferrulelaw14_CoordCommits.j1, if_pos rfl]) (other b f (by rw [doR_other hne]; exact hK))
      · simp only [if_neg (fun h => (ne_bool o.f1 t).1 h hne)]
        by_cases he : (doR l o).2.1 = 0
        rotate_left
        · exact Ev.step (f := fun k => ferrulelaw14_CoordCommits.l0 k l0 true b f (wrap64 ((j : Int) + 1)) t.f0 t.f1 (doR l o).1) (fun k => by rw [ferrulelaw14_CoordCommits.j1, if_pos (by simp [he])]) (other b f (by rw [doR_err he]; exact hK))
        · by_cases h5 : o.f0 = 5
          · obtain ⟨h1, h2⟩ := doR_begin h5 he
            rw [hne] at h1 h2
            have hf : f = 0 := by
              rcases hK with ⟨_, h⟩ | ⟨_, h, _⟩ | ⟨h, _⟩ | ⟨h, _⟩
              · exact h
              · exact h
              · rcases h1 with h1 | h1 <;> rw [h] at h1 <;> cases h1
              · rcases h1 with h1 | h1 <;> rw [h] at h1 <;> cases h1
            exact Ev.step (f := fun k => ferrulelaw14_CoordCommits.l0 k l0 true true f (wrap64 ((j : Int) + 1)) t.f0 t.f1 (doR l o).1) (fun k => by rw [ferrulelaw14_CoordCommits.j1, if_neg (by simp [he]), if_pos h0j, if_pos hjl', ho, if_pos h5]) (other true f (.inr (.inl ⟨h2, hf, rfl⟩)))
          · have h67 : o.f0 = 6 ∨ o.f0 = 7 := by
              rcases doR_kind he with h | h | h
              · exact absurd h h5
              · exact .inl h
              · exact .inr h
            refine Ev.step (f := fun k => ferrulelaw14_CoordCommits.j2 k l0 true b f (j : Int) true t.f0 t.f1 (doR l o).1 (doR l o).2.1 (doR l o).2.2.1 (doR l o).2.2.2.1 (doR l o).2.2.2.2.1 (doR l o).2.2.2.2.2) (fun k => ?_) ?_
            · rw [ferrulelaw14_CoordCommits.j1, if_neg (by simp [he]), if_pos h0j, if_pos hjl', ho, if_neg h5]
              by_cases h6 : o.f0 = 6
              · rw [if_pos h6, h6]; rfl
              · have h7 : o.f0 = 7 := by omega
                rw [if_neg h6, h7]; rfl
            · have key := doR_decide h67 he
              rw [hne] at key
              have hst := fun st (h : stOf l t = some st) => hI.st h
              by_cases hf : f = 0
              · subst hf
                refine Ev.step (f := fun k => ferrulelaw14_CoordCommits.j3 k l0 true b 1 (j : Int) (comm o) t.f0 t.f1 (doR l o).1 (doR l o).2.1 (doR l o).2.2.1 (doR l o).2.2.2.1 (doR l o).2.2.2.2.1 (doR l o).2.2.2.2.2) (fun k => ?_) ?_
                · rw [ferrulelaw14_CoordCommits.j2, if_pos rfl, if_pos rfl, if_pos h0j, if_pos hjl', ho]
                  unfold comm
                  by_cases h6 : o.f0 = 6
                  · rw [if_pos h6, decide_eq_true h6, Bool.true_and]
                  · rw [if_neg h6, decide_eq_false h6, Bool.false_and]
                · have h02 : (stOf l t = none) ∨ (stOf l t = some 0 ∧ b = true) := by
                    rcases hK with ⟨h, _⟩ | ⟨h, _, hb⟩ | ⟨_, h, _⟩ | ⟨_, h⟩
                    · exact .inl h
                    · exact .inr ⟨h, hb⟩
                    · cases h
                    · cases h
                  cases hc : comm o with
                  | true =>
                    rw [hc] at key
                    rcases key with ⟨_, h, _⟩ | ⟨st, h1, h2, h3⟩
                    · cases h
                    · rcases h02 with h | ⟨h, hb⟩
                      · rw [h] at h1; cases h1
                      · rw [h] at h1
                        obtain rfl := Option.some.inj h1
                        rw [show (doR l o).2.2.2.2.2 = true from h2, hb]
                        exact Ev.step (f := fun k => ferrulelaw14_CoordCommits.l0 k l0 true true 2 (wrap64 ((j : Int) + 1)) t.f0 t.f1 (doR l o).1) (fun k => by rw [ferrulelaw14_CoordCommits.j3, if_pos rfl, if_neg (by decide), if_pos rfl, if_pos rfl]) (other true 2 (.inr (.inr (.inl ⟨h3, rfl, rfl⟩))))
                  | false =>
                    rw [hc] at key
                    have hfin : (doR l o).2.2.2.2.2 = false ∧ stOf (doR l o).1 t = some 2 := by
                      rcases key with ⟨_, _, h2, h3⟩ | ⟨st, h1, h2, h3⟩
                      · exact ⟨h2, h3⟩
                      · rcases h02 with h | ⟨h, hb⟩
                        · rw [h] at h1; cases h1
                        · rw [h] at h1
                          obtain rfl := Option.some.inj h1
                          exact ⟨h2, h3⟩
                    rw [hfin.1]
                    exact Ev.step (f := fun k => ferrulelaw14_CoordCommits.l0 k l0 true b 1 (wrap64 ((j : Int) + 1)) t.f0 t.f1 (doR l o).1) (fun k => by rw [ferrulelaw14_CoordCommits.j3, if_neg (by simp), if_neg (by decide), if_neg (by simp)]) (other b 1 (.inr (.inr (.inr ⟨hfin.2, rfl⟩))))
              · rcases hK with ⟨_, h⟩ | ⟨_, h, _⟩ | ⟨h, hf2, hb⟩ | ⟨h, hf1⟩
                · exact absurd h hf
                · exact absurd h hf
                · rcases key with ⟨h1, _⟩ | ⟨st, h1, h2, h3⟩
                  · rw [h] at h1; cases h1
                  · rw [h] at h1
                    obtain rfl := Option.some.inj h1
                    subst hf2
                    rw [show (doR l o).2.2.2.2.2 = true from h2, hb]
                    exact Ev.step (f := fun k => ferrulelaw14_CoordCommits.l0 k l0 true true 2 (wrap64 ((j : Int) + 1)) t.f0 t.f1 (doR l o).1) (fun k => by rw [ferrulelaw14_CoordCommits.j2, if_pos rfl, if_neg (by decide), if_neg (by decide), if_pos rfl, if_pos rfl]) (other true 2 (.inr (.inr (.inl ⟨h3, rfl, rfl⟩))))
                · rcases key with ⟨h1, _⟩ | ⟨st, h1, h2, h3⟩
                  · rw [h] at h1; cases h1
                  · rw [h] at h1
                    obtain rfl := Option.some.inj h1
                    subst hf1
                    rw [show (doR l o).2.2.2.2.2 = false from h2]
                    exact Ev.step (f := fun k => ferrulelaw14_CoordCommits.l0 k l0 true b 1 (wrap64 ((j : Int) + 1)) t.f0 t.f1 (doR l o).1) (fun k => by rw [ferrulelaw14_CoordCommits.j2, if_pos rfl, if_neg (by decide), if_neg (by decide), if_neg (by simp)]) (other b 1 (.inr (.inr (.inr ⟨h3, rfl⟩))))
end Go.Proofs.Ytdlkpejlkijgcaa.Pr
namespace Go.Proofs.Ytdlkpejlkijgcaa.Pure
open Go.RowKit Go.Proofs.Ytdlkpejlkijgcaa.Pr Go.Proofs.YtdlkpejlkijgcaaW.PrintWords Go.Proofs.YtdlkpejlkijgcaaW.PrintLast Go.Proofs.YtdlkpejlkijgcaaW.PrintMore
theorem CoordCommits : ferrulelaw14_CoordCommits.Pure := by
  intro l0 a0 a1 ⟨h1, h2, hq⟩ _
  exact (Ev.rounds (Ev.congr (f := fun k => ferrulelaw14_CoordCommits.l0 k l0 true false 0 0 a0 a1 []) (fun k => rfl) (commits_l l0 ⟨a0, a1⟩ hq (by omega) l0.length 0 [] false 0 (by omega) inv_nil (.inl ⟨rfl, rfl⟩))))
end Go.Proofs.Ytdlkpejlkijgcaa.Pure
