/- What became of a transaction never changes, and is told the same to all who ask: proved of the printed function. Conditions: none. -/
import Derived.Test.YtdlkpejlkijgcaaDefCoordOnce
import Derived.Test.YtdlkpejlkijgcaaCoordO
import Derived.Test.YtdlkpejlkijgcaaCoordR
namespace Go.Proofs.Ytdlkpejlkijgcaa.Pr
open Go.RowKit Go.Proofs.YtdlkpejlkijgcaaW.PrintWords Go.Proofs.YtdlkpejlkijgcaaW.PrintLast Go.Proofs.YtdlkpejlkijgcaaW.PrintMore
set_option linter.unusedVariables false
set_option linter.unusedSimpArgs false
theorem rd38_lt {l : List S38} {j : Nat} (h : j < l.length) : rd_T38 l (j : Int) = l[j] := by
  unfold rd_T38
  simp [List.getD_eq_getElem?_getD, List.getElem?_eq_getElem h]
theorem eq_bool (x t : S34) : (x.f0 == t.f0 && (x.f1 == t.f1)) = true ↔ x = t := by
  obtain ⟨a, b⟩ := x
  obtain ⟨c, d⟩ := t
  simp
/-- What was told stands in the deals. -/
def TT (l : List S42) (t : S34) (told c : Bool) : Prop := told = true → stOf l t = some (if c then 1 else 2)
theorem findR_st {l : List S42} {t : S34} {st : Int} (h : stOf l t = some st) : (findR l t).2.2.2.2 = true ∧ (findR l t).2.2.2.1 = st := by
  unfold stOf at h
  unfold findR
  cases hp : plc l t with
  | none => rw [hp] at h; cases h
  | some i =>
    rw [hp] at h
    exact ⟨rfl, Option.some.inj h⟩
theorem told_ok {st : Int} {c : Bool} (h : st = if c then 1 else 2) : ¬ st = 0 ∧ ((st == 1) != c) = false := by
  subst h
  cases c <;> simp
theorem once_l (l0 : List S38) (t : S34) (hq : ∀ y, y ∈ l0 → q38 y) (hl : l0.length < 4611686018427387904) (d : Nat) : ∀ (j : Nat) (l : List S42) (told c : Bool), j + d = l0.length → Inv l → TT l t told c →
    Ev (fun k => ferrulelaw14_CoordOnce.l0 k l0 true told c (j : Int) t.f0 t.f1 l) true := by
  induction d with
  | zero =>
    intro j l told c hj hI hK
    exact Ev.step (f := fun _ => some true) (fun k => by rw [ferrulelaw14_CoordOnce.l0, if_neg (by omega)]) (Ev.now true)
  | succ d ih =>
    intro j l told c hj hI hK
    have hjl : j < l0.length := by omega
    have hq1 := hq _ (List.getElem_mem hjl)
    rw [← rd38_lt hjl] at hq1
    generalize ho : rd_T38 l0 (j : Int) = o at hq1
    have hy : okB o.f1 = true := (okB_iff _).2 hq1.2.1
    have hI2 := inv_doR hI hy
    have hw : wrap64 ((j : Int) + 1) = ((j + 1 : Nat) : Int) := wr_succ (by omega)
    have hll : (doR l o).1.length < 4611686018427387904 := by have := hI2.len; omega
    have next : ∀ told' c', TT (doR l o).1 t told' c' → Ev (fun k => ferrulelaw14_CoordOnce.l0 k l0 true told' c' (wrap64 ((j : Int) + 1)) t.f0 t.f1 (doR l o).1) true := fun told' c' h => by
      rw [hw]; exact ih (j + 1) _ told' c' (by omega) hI2 h
    -- nothing is told now
    have skip : TT (doR l o).1 t told c → Ev (fun k => ferrulelaw14_CoordOnce.j1 k l0 true told c (j : Int) false t.f0 t.f1 (doR l o).1 (doR l o).2.1 (doR l o).2.2.1 (doR l o).2.2.2.1 (doR l o).2.2.2.2.1 (doR l o).2.2.2.2.2) true := by
      intro hK2
      refine Ev.step (f := fun k => (ferruleref14_Find.f k (doR l o).1 t.f0 t.f1).bind fun bt268 => (if told = true then (if bt268.2.2.2.2 = true then (if bt268.2.2.2.1 = 0 then none else (if ((bt268.2.2.2.1 == 1) != c) = true then none else (ferrulelaw14_CoordOnce.l0 k l0 true told c (wrap64 ((j : Int) + 1)) t.f0 t.f1 (doR l o).1))) else none) else (ferrulelaw14_CoordOnce.l0 k l0 true told c (wrap64 ((j : Int) + 1)) t.f0 t.f1 (doR l o).1))) (fun k => by rw [ferrulelaw14_CoordOnce.j1, if_neg (by simp)]) ?_
      refine Ev.bind (find_ev _ t.f0 t.f1 hll) ?_
      cases told with
      | false => simpa using next false c hK2
      | true =>
        obtain ⟨h1, h2⟩ := findR_st (hK2 rfl)
        obtain ⟨h3, h4⟩ := told_ok h2
        simp only [h1, if_pos, if_neg h3, h4]
        simpa using next true c hK2
    -- it is told now
    have tell : (told = true → (doR l o).2.2.2.2.2 = c) → TT (doR l o).1 t true (doR l o).2.2.2.2.2 → Ev (fun k => ferrulelaw14_CoordOnce.j1 k l0 true told c (j : Int) true t.f0 t.f1 (doR l o).1 (doR l o).2.1 (doR l o).2.2.1 (doR l o).2.2.2.1 (doR l o).2.2.2.2.1 (doR l o).2.2.2.2.2) true := by
      intro hc hK2
      refine Ev.step (f := fun k => ferrulelaw14_CoordOnce.j2 k l0 true (j : Int) false t.f0 t.f1 (doR l o).1 (doR l o).2.1 (doR l o).2.2.1 (doR l o).2.2.2.1 (doR l o).2.2.2.2.1 (doR l o).2.2.2.2.2) (fun k => ?_) ?_
      · rw [ferrulelaw14_CoordOnce.j1, if_pos rfl]
        cases told with
        | false => rw [if_neg (by simp)]
        | true =>
          rw [if_pos rfl]
          have : ((doR l o).2.2.2.2.2 != c) = false := by rw [hc rfl]; simp
          rw [this]
      · refine Ev.step (f := fun k => (ferruleref14_Find.f k (doR l o).1 t.f0 t.f1).bind fun bt260 => (if bt260.2.2.2.2 = true then (if bt260.2.2.2.1 = 0 then none else (if ((bt260.2.2.2.1 == 1) != (doR l o).2.2.2.2.2) = true then none else (ferrulelaw14_CoordOnce.l0 k l0 true true (doR l o).2.2.2.2.2 (wrap64 ((j : Int) + 1)) t.f0 t.f1 (doR l o).1))) else none)) (fun k => by rw [ferrulelaw14_CoordOnce.j2, if_neg (by simp)]) ?_
        refine Ev.bind (find_ev _ t.f0 t.f1 hll) ?_
        obtain ⟨h1, h2⟩ := findR_st (hK2 rfl)
        obtain ⟨h3, h4⟩ := told_ok h2
        simp only [h1, if_pos, if_neg h3, h4]
        simpa using next true _ hK2
    refine Ev.step (f := fun k => (coord_Do.f k l o.f0 o.f1.f0 o.f1.f1 o.f2 o.f3 o.f4 o.f5).bind fun bt247 => (if (o.f1.f0 == t.f0 && (o.f1.f1 == t.f1)) = true then (if o.f0 = 6 then (ferrulelaw14_CoordOnce.j1 k l0 true told c (j : Int) (bt247.2.1 == 0) t.f0 t.f1 bt247.1 bt247.2.1 bt247.2.2.1 bt247.2.2.2.1 bt247.2.2.2.2.1 bt247.2.2.2.2.2) else (if o.f0 = 7 then (ferrulelaw14_CoordOnce.j1 k l0 true told c (j : Int) (bt247.2.1 == 0) t.f0 t.f1 bt247.1 bt247.2.1 bt247.2.2.1 bt247.2.2.2.1 bt247.2.2.2.2.1 bt247.2.2.2.2.2) else (ferrulelaw14_CoordOnce.j1 k l0 true told c (j : Int) false t.f0 t.f1 bt247.1 bt247.2.1 bt247.2.2.1 bt247.2.2.2.1 bt247.2.2.2.2.1 bt247.2.2.2.2.2))) else (ferrulelaw14_CoordOnce.j1 k l0 true told c (j : Int) false t.f0 t.f1 bt247.1 bt247.2.1 bt247.2.2.1 bt247.2.2.2.1 bt247.2.2.2.2.1 bt247.2.2.2.2.2))) (fun k => ?_) ?_
    · rw [ferrulelaw14_CoordOnce.l0, if_pos (by omega), if_pos (by omega), ho]
    · refine Ev.bind (do_ev l o (by have := hI.len; omega) hI.ok hy (by have := hq1.2.2.2.2.2.2.1; omega) hI.parts) ?_
      by_cases hne : o.f1 = t
      rotate_left
      · simp only [if_neg (fun h => hne ((eq_bool o.f1 t).1 h))]
        exact skip (fun h => by rw [doR_other hne]; exact hK h)
      · simp only [if_pos ((eq_bool o.f1 t).2 hne)]
        by_cases he : (doR l o).2.1 = 0
        rotate_left
        · have h1 : ((doR l o).2.1 == 0) = false := beq_eq_false_iff_ne.mpr he
          have hK2 : TT (doR l o).1 t told c := by rw [doR_err he]; exact hK
          rw [h1]
          refine Ev.congr (fun k => ?_) (skip hK2)
          by_cases h6 : o.f0 = 6
          · rw [if_pos h6]
          · rw [if_neg h6]
            by_cases h7 : o.f0 = 7
            · rw [if_pos h7]
            · rw [if_neg h7]
        · have h1 : ((doR l o).2.1 == 0) = true := beq_iff_eq.mpr he
          rw [h1]
          by_cases h5 : o.f0 = 5
          · obtain ⟨g1, g2⟩ := doR_begin h5 he
            rw [hne] at g1
            have hf : told = false := by
              cases told with
              | false => rfl
              | true =>
                have h := hK rfl
                rcases g1 with g | g <;> rw [g] at h
                · cases h
                · have := Option.some.inj h
                  cases c <;> simp at this
            refine Ev.congr (fun k => ?_) (skip (fun h => by rw [hf] at h; cases h))
            rw [if_neg (by omega), if_neg (by omega)]
          · have h67 : o.f0 = 6 ∨ o.f0 = 7 := by
              rcases doR_kind he with h | h | h
              · exact absurd h h5
              · exact .inl h
              · exact .inr h
            have key := doR_decide h67 he
            rw [hne] at key
            have hh : (told = true → (doR l o).2.2.2.2.2 = c) ∧ TT (doR l o).1 t true (doR l o).2.2.2.2.2 := by
              rcases key with ⟨k1, k2, k3, k4⟩ | ⟨st, k1, k2, k3⟩
              · refine ⟨fun h => ?_, fun _ => ?_⟩
                · have := hK h
                  rw [k1] at this
                  cases this
                · rw [k4, k3]; rfl
              · have hst := hI.st k1
                refine ⟨fun h => ?_, fun _ => ?_⟩
                · have hs := hK h
                  rw [k1] at hs
                  have hs := Option.some.inj hs
                  rw [k2, hs]
                  cases c <;> simp [decSt]
                · rw [k3, k2]
                  rcases hst with rfl | rfl | rfl
                  · cases comm o <;> simp [decSt]
                  · simp [decSt]
                  · simp [decSt]
            refine Ev.congr (fun k => ?_) (tell hh.1 hh.2)
            by_cases h6 : o.f0 = 6
            · rw [if_pos h6]
            · rw [if_neg h6, if_pos (by omega)]
end Go.Proofs.Ytdlkpejlkijgcaa.Pr
namespace Go.Proofs.Ytdlkpejlkijgcaa.Pure
open Go.RowKit Go.Proofs.Ytdlkpejlkijgcaa.Pr Go.Proofs.YtdlkpejlkijgcaaW.PrintWords Go.Proofs.YtdlkpejlkijgcaaW.PrintLast Go.Proofs.YtdlkpejlkijgcaaW.PrintMore
theorem CoordOnce : ferrulelaw14_CoordOnce.Pure := by
  intro l0 a b ⟨h1, h2, hq⟩ _
  exact Ev.rounds (Ev.congr (f := fun k => ferrulelaw14_CoordOnce.l0 k l0 true false false 0 a b []) (fun k => rfl) (once_l l0 ⟨a, b⟩ hq (by omega) l0.length 0 [] false false (by omega) inv_nil (fun h => by cases h)))
end Go.Proofs.Ytdlkpejlkijgcaa.Pure
