/- A coordinator that began empty is right behind each order: plain lists. Conditions: none. -/
import Derived.Test.YtdlkpejlkijgcaaCoordD
namespace Go.Proofs.Ytdlkpejlkijgcaa.Pr
open Go.RowKit Go.Proofs.YtdlkpejlkijgcaaW.PrintWords Go.Proofs.YtdlkpejlkijgcaaW.PrintLast Go.Proofs.YtdlkpejlkijgcaaW.PrintMore
set_option linter.unusedVariables false
set_option linter.unusedSimpArgs false
theorem rd_lt {l : List S42} {j : Nat} (h : j < l.length) : rd_T42 l (j : Int) = l[j] := by
  unfold rd_T42
  simp [List.getD_eq_getElem?_getD, List.getElem?_eq_getElem h]
theorem rd_app {l : List S42} {d : S42} {j : Nat} (h : j < l.length) : rd_T42 (l ++ [d]) (j : Int) = rd_T42 l (j : Int) := by
  rw [rd_lt (by simp; omega), rd_lt h, List.getElem_append_left h]
theorem rd_last (l : List S42) (d : S42) : rd_T42 (l ++ [d]) (l.length : Int) = d := by
  rw [rd_lt (by simp), List.getElem_append_right (Nat.le_refl _)]
  simp
theorem plc_nil (y : S34) : plc [] y = none := rfl
theorem plc_app_some {l : List S42} {d : S42} {y : S34} {i : Int} (h : plc l y = some i) : plc (l ++ [d]) y = some i := by
  obtain ⟨j, rfl, hj, hy, hm⟩ := plc_some h
  exact plc_eq (by simp; omega) (by rw [rd_app hj]; exact hy) (fun m hmj => by rw [rd_app (by omega)]; exact hm m hmj)
theorem plc_app_last {l : List S42} {d : S42} (h : plc l d.f0 = none) : plc (l ++ [d]) d.f0 = some (l.length : Int) :=
  plc_eq (by simp) (by rw [rd_last]) (fun m hmj => by rw [rd_app hmj]; exact plc_none h m hmj)
theorem plc_app_other {l : List S42} {d : S42} {y : S34} (hy : d.f0 ≠ y) (h : plc l y = none) : plc (l ++ [d]) y = none := by
  cases hp : plc (l ++ [d]) y with
  | none => rfl
  | some i =>
    obtain ⟨j, rfl, hj, hjy, _⟩ := plc_some hp
    rw [List.length_append, List.length_singleton] at hj
    by_cases e : j < l.length
    · rw [rd_app e] at hjy
      exact absurd hjy (plc_none h j e)
    · obtain rfl : j = l.length := by omega
      rw [rd_last] at hjy
      exact absurd hjy hy
theorem plc_cong {l l' : List S42} (hl : l.length = l'.length) (h : ∀ j : Nat, j < l.length → (rd_T42 l (j : Int)).f0 = (rd_T42 l' (j : Int)).f0) (y : S34) : plc l y = plc l' y := by
  cases hp : plc l' y with
  | some i =>
    obtain ⟨j, rfl, hj, hy, hm⟩ := plc_some hp
    exact plc_eq (by omega) ((h j (by omega)).trans hy) (fun m hmj => by rw [h m (by omega)]; exact hm m hmj)
  | none =>
    cases hq : plc l y with
    | none => rfl
    | some i =>
      obtain ⟨j, rfl, hj, hy, _⟩ := plc_some hq
      exact absurd ((h j hj).symm.trans hy) (plc_none hp j (by omega))
theorem rd_set_ne {l : List S42} {i j : Nat} (y : S42) (h : i ≠ j) : rd_T42 (l.set i y) (j : Int) = rd_T42 l (j : Int) := by
  unfold rd_T42
  simp [List.getD_eq_getElem?_getD, List.getElem?_set, h]
/-- A deal behind a decision. -/
def decD (d : S42) (c : Bool) : S42 := ⟨d.f0, d.f1, decSt d.f2 c⟩
theorem decD_id {d : S42} (c : Bool) (h : d.f2 ≠ 0) : decD d c = d := by
  cases d
  simp at h
  simp [decD, decSt, h]
theorem rd_dec {l : List S42} {i : Nat} (hi : i < l.length) (c : Bool) (j : Nat) : rd_T42 (decL l (i : Int) c) (j : Int) = if j = i then decD (rd_T42 l (i : Int)) c else rd_T42 l (j : Int) := by
  unfold decL
  by_cases h0 : (rd_T42 l (i : Int)).f2 = 0
  · rw [if_pos h0, Int.toNat_natCast]
    by_cases e : j = i
    · subst e
      rw [if_pos rfl, rd_set hi]
      unfold decD
      rw [h0]
    · rw [if_neg e, rd_set_ne _ (fun h => e h.symm)]
  · rw [if_neg h0]
    by_cases e : j = i
    · subst e
      rw [if_pos rfl, decD_id c h0]
    · rw [if_neg e]
theorem plc_dec {l : List S42} {i : Nat} (hi : i < l.length) (c : Bool) (y : S34) : plc (decL l (i : Int) c) y = plc l y := by
  refine plc_cong (len_decL _ _ _) (fun j hj => ?_) y
  rw [rd_dec hi]
  by_cases e : j = i
  · subst e; rw [if_pos rfl]; rfl
  · rw [if_neg e]
/-- What a coordinator is that began empty. -/
structure Inv (l : List S42) : Prop where
  len : l.length ≤ 64
  ok : okAll l = true
  at_ : ∀ j : Nat, j < l.length → rightAt l j = true
theorem Inv.right {l : List S42} (h : Inv l) : rightB l = true := by
  unfold rightB
  rw [decide_eq_true h.len, Bool.true_and, List.all_eq_true]
  intro j hj
  rw [List.mem_range'_1] at hj
  exact h.at_ j (by omega)
theorem inv_nil : Inv [] := ⟨by simp, rfl, fun j hj => by simp at hj⟩
/-- A deal that may stand: its state and its parts. -/
def dealB (d : S42) : Bool := !(decide (d.f2 < 0)) && (!(decide (d.f2 > 2)) && (mayB d.f1 || (!(decide ((d.f1.length : Int) > 0)) && decide (d.f2 = 2))))
theorem rightAt_eq (l : List S42) (j : Nat) : rightAt l j = (decide (plcI l (rd_T42 l (j : Int)).f0 = (j : Int)) && dealB (rd_T42 l (j : Int))) := rfl
theorem plcI_some {l : List S42} {y : S34} {j : Nat} : plcI l y = (j : Int) ↔ plc l y = some (j : Int) := by
  unfold plcI
  cases h : plc l y with
  | none => simp
  | some i => simp
theorem Inv.parts {l : List S42} (h : Inv l) : ∀ d, d ∈ l → d.f1.length < 17592186044416 := by
  intro d hd
  obtain ⟨j, hj, rfl⟩ := List.mem_iff_getElem.1 hd
  have h1 := h.at_ j hj
  rw [rightAt_eq, rd_lt hj, Bool.and_eq_true] at h1
  have h2 := h1.2
  unfold dealB mayB lenB at h2
  simp only [Bool.and_eq_true, Bool.or_eq_true, Bool.not_eq_true', decide_eq_true_eq, decide_eq_false_iff_not] at h2
  rcases h2.2.2 with h3 | h3
  · omega
  · omega
theorem okAll_app {l : List S42} {d : S42} (h : okAll l = true) (hd : okB d.f0 = true) : okAll (l ++ [d]) = true := by
  unfold okAll at h ⊢
  rw [List.all_append, h]
  simp [hd]
theorem okAll_iff (l : List S42) : okAll l = true ↔ ∀ j : Nat, j < l.length → okB (rd_T42 l (j : Int)).f0 = true := by
  unfold okAll
  rw [List.all_eq_true]
  constructor
  · intro h j hj
    rw [rd_lt hj]
    exact h _ (List.getElem_mem hj)
  · intro h d hd
    obtain ⟨j, hj, rfl⟩ := List.mem_iff_getElem.1 hd
    have := h j hj
    rwa [rd_lt hj] at this
theorem inv_add {l : List S42} {d : S42} (h : Inv l) (hd : okB d.f0 = true) (hdeal : dealB d = true) (hp : plc l d.f0 = none) : Inv (addR l d).1 := by
  unfold addR noR
  by_cases h64 : 64 ≤ l.length
  · rw [if_pos h64]; exact h
  rw [if_neg h64]
  refine ⟨by simp; omega, okAll_app h.ok hd, fun j hj => ?_⟩
  rw [List.length_append, List.length_singleton] at hj
  rw [rightAt_eq, Bool.and_eq_true, decide_eq_true_eq, plcI_some]
  by_cases e : j < l.length
  · have h1 := h.at_ j e
    rw [rightAt_eq, Bool.and_eq_true, decide_eq_true_eq, plcI_some] at h1
    rw [rd_app e]
    exact ⟨plc_app_some h1.1, h1.2⟩
  · obtain rfl : j = l.length := by omega
    rw [rd_last]
    exact ⟨plc_app_last hp, hdeal⟩
theorem dealB_dec {d : S42} (c : Bool) (h : dealB d = true) : dealB (decD d c) = true := by
  by_cases h0 : d.f2 = 0
  · unfold dealB decD decSt at *
    rw [h0] at h
    rw [h0]
    cases c <;> simp at h ⊢ <;> simp [h]
  · rw [decD_id c h0]; exact h
theorem inv_dec {l : List S42} {i : Nat} (h : Inv l) (hi : i < l.length) (c : Bool) : Inv (decL l (i : Int) c) := by
  refine ⟨by rw [len_decL]; exact h.len, ?_, fun j hj => ?_⟩
  · rw [okAll_iff, len_decL]
    intro j hj
    rw [rd_dec hi]
    have hok := (okAll_iff l).1 h.ok
    by_cases e : j = i
    · rw [if_pos e]; exact hok i hi
    · rw [if_neg e]; exact hok j hj
  · rw [len_decL] at hj
    have h1 := h.at_ j hj
    rw [rightAt_eq, Bool.and_eq_true, decide_eq_true_eq, plcI_some] at h1 ⊢
    rw [rd_dec hi, plc_dec hi]
    by_cases e : j = i
    · subst e
      rw [if_pos rfl]
      exact ⟨h1.1, dealB_dec c h1.2⟩
    · rw [if_neg e]; exact h1
theorem inv_decR {l : List S42} {y : S34} (h : Inv l) (hy : okB y = true) (c : Bool) : Inv (decR l y c).1 := by
  unfold decR
  cases hp : plc l y with
  | none =>
    cases c with
    | true => exact h
    | false => exact inv_add (d := ⟨y, [], 2⟩) h hy rfl hp
  | some i =>
    obtain ⟨j, rfl, hj, _⟩ := plc_some hp
    exact inv_dec h hj c
theorem inv_doR {l : List S42} {o : S38} (h : Inv l) (hy : okB o.f1 = true) : Inv (doR l o).1 := by
  unfold doR
  by_cases h5 : o.f0 = 5
  · rw [if_pos h5]
    unfold begR
    cases hm : mayB o.f5 with
    | false => rw [if_neg (by simp)]; exact h
    | true =>
      rw [if_pos rfl]
      cases hp : plc l o.f1 with
      | none => exact inv_add (d := ⟨o.f1, o.f5, 0⟩) h hy (by unfold dealB; simp [hm]) hp
      | some i =>
        dsimp only
        split
        · split <;> exact h
        · exact h
  · rw [if_neg h5]
    by_cases h7 : o.f0 = 7
    · rw [if_pos h7]; exact inv_decR h hy false
    · rw [if_neg h7]
      by_cases h6 : o.f0 = 6
      · rw [if_pos h6]; exact inv_decR h hy o.f4
      · rw [if_neg h6]; exact h
end Go.Proofs.Ytdlkpejlkijgcaa.Pr
