/- The pure statement of the law TapeLasts, proved. Conditions: none. -/
import Derived.Test.YtofdgkcaimifkaaDefTapeLasts
import Derived.Test.YtofdgkcaimifkaaTapeL
namespace Go.Proofs.Ytofdgkcaimifkaa.Pure
open Go.RowKit Go.Proofs.Ytofdgkcaimifkaa.Pr Go.Proofs.YtofdgkcaimifkaaW.PrintWords Go.Proofs.YtofdgkcaimifkaaW.PrintLast Go.Proofs.YtofdgkcaimifkaaW.PrintMore
theorem write_cases (sf rs : ByteArray) (p : Int) (off : Bool) (s : ByteArray) (h : sf.size + rs.size + s.size ≤ 4611686018427387904) : ∃ p' off' e, (e = (0 : Int) ∧ sf.size + rs.size + s.size ≤ 262144 ∧ tape_Write.f sf rs p off s = some (sf, rs ++ s, p', off', e)) ∨ (¬ e = 0 ∧ tape_Write.f sf rs p off s = some (sf, rs, p', off', e)) := by
  unfold tape_Write.f
  rw [if_pos h]
  cases off
  · rw [if_neg (by decide)]
    by_cases c : (sf.size : Int) + rs.size + s.size > 262144
    · rw [if_pos c]
      exact ⟨_, _, _, Or.inr ⟨by decide, rfl⟩⟩
    · rw [if_neg c]
      by_cases c1 : p = 0
      · rw [if_pos c1]
        exact ⟨_, _, _, Or.inr ⟨by decide, rfl⟩⟩
      · rw [if_neg c1]
        by_cases c2 : 0 < p
        · rw [if_pos c2]
          exact ⟨_, _, _, Or.inl ⟨rfl, by omega, rfl⟩⟩
        · rw [if_neg c2]
          exact ⟨_, _, _, Or.inl ⟨rfl, by omega, rfl⟩⟩
  · exact ⟨_, _, _, Or.inr ⟨by decide, rfl⟩⟩
theorem sync_cases (sf rs : ByteArray) (p : Int) (off : Bool) (h : sf.size + rs.size ≤ 4611686018427387904) : ∃ p' off' e, (e = (0 : Int) ∧ tape_Sync.f sf rs p off = some (sf ++ rs, (⟨#[]⟩ : ByteArray), p', off', e)) ∨ (¬ e = 0 ∧ tape_Sync.f sf rs p off = some (sf, rs, p', off', e)) := by
  unfold tape_Sync.f
  rw [if_pos h]
  cases off
  · rw [if_neg (by decide)]
    by_cases c1 : p = 0
    · rw [if_pos c1]
      exact ⟨_, _, _, Or.inr ⟨by decide, rfl⟩⟩
    · rw [if_neg c1]
      by_cases c2 : 0 < p
      · rw [if_pos c2]
        exact ⟨_, _, _, Or.inl ⟨rfl, rfl⟩⟩
      · rw [if_neg c2]
        exact ⟨_, _, _, Or.inl ⟨rfl, rfl⟩⟩
  · exact ⟨_, _, _, Or.inr ⟨by decide, rfl⟩⟩
theorem install_cases (sf rs : ByteArray) (p : Int) (off : Bool) (s : ByteArray) (h : sf.size + rs.size + s.size ≤ 4611686018427387904) : ∃ p' off' e, (e = (0 : Int) ∧ s.size ≤ 262144 ∧ tape_Install.f sf rs p off s = some (s, (⟨#[]⟩ : ByteArray), p', off', e)) ∨ (¬ e = 0 ∧ tape_Install.f sf rs p off s = some (sf, rs, p', off', e)) := by
  unfold tape_Install.f
  rw [if_pos h]
  cases off
  · rw [if_neg (by decide)]
    by_cases c : (s.size : Int) > 262144
    · rw [if_pos c]
      exact ⟨_, _, _, Or.inr ⟨by decide, rfl⟩⟩
    · rw [if_neg c]
      by_cases c1 : p = 0
      · rw [if_pos c1]
        exact ⟨_, _, _, Or.inr ⟨by decide, rfl⟩⟩
      · rw [if_neg c1]
        by_cases c2 : 0 < p
        · rw [if_pos c2]
          exact ⟨_, _, _, Or.inl ⟨rfl, by omega, rfl⟩⟩
        · rw [if_neg c2]
          exact ⟨_, _, _, Or.inl ⟨rfl, by omega, rfl⟩⟩
  · exact ⟨_, _, _, Or.inr ⟨by decide, rfl⟩⟩
theorem read_f (a : ByteArray) (p : Int) (h : a.size ≤ 4611686018427387904) : tape_Read.f a (⟨#[]⟩ : ByteArray) p false = some (a, 0) := by
  have e0 : (⟨#[]⟩ : ByteArray).size = 0 := rfl
  unfold tape_Read.f
  rw [if_neg (by decide), e0, if_pos (by omega), app_emp]
set_option maxHeartbeats 1000000 in
theorem lasts_loop (l : List S41) (hl : l.length ≤ 140737488351232) (hq : ∀ y, y ∈ l → y.f1.size ≤ 140737488351232) (d : Nat) : ∀ (k i : Nat) (sf rs all : ByteArray) (p : Int) (off : Bool), i + d = l.length → all = sf ++ rs → sf.size + rs.size ≤ 262144 → ferrulelaw03_TapeLasts.l0 (k + d + 1) l true sf all (i : Int) sf rs p off = some true := by
  induction d with
  | zero =>
    intro k i sf rs all p off hi ha hs
    show ferrulelaw03_TapeLasts.l0 (k + 1) _ _ _ _ _ _ _ _ _ = _
    rw [ferrulelaw03_TapeLasts.l0, if_neg (by omega)]
  | succ d ih =>
    intro k i sf rs all p off hi ha hs
    have e0 : (⟨#[]⟩ : ByteArray).size = 0 := rfl
    have hy : (rd_T41 l (i : Int)).f1.size ≤ 140737488351232 := by
      have hlt : i < l.length := by omega
      have e : rd_T41 l (i : Int) = l[i] := by simp [rd_T41, List.getD_eq_getElem?_getD, hlt]
      rw [e]
      exact hq _ (List.getElem_mem _)
    have hw : wrap64 ((i : Int) + 1) = ((i + 1 : Nat) : Int) := by rw [wrap64_in (by omega) (by omega)]; omega
    have has : all.size = sf.size + rs.size := by rw [ha, ByteArray.size_append]
    have go : ∀ (sf' rs' all' : ByteArray) (p' : Int) (off' : Bool), all' = sf' ++ rs' → sf'.size + rs'.size ≤ 262144 → ferrulelaw03_TapeLasts.l0 (k + d + 1) l true sf' all' (wrap64 ((i : Int) + 1)) sf' rs' p' off' = some true := fun sf' rs' all' p' off' h1 h2 => by
      rw [hw]
      exact ih k (i + 1) sf' rs' all' p' off' (by omega) h1 h2
    show ferrulelaw03_TapeLasts.l0 ((k + d + 1) + 1) _ _ _ _ _ _ _ _ _ = _
    rw [ferrulelaw03_TapeLasts.l0, if_pos (by omega), if_pos (by omega)]
    generalize rd_T41 l (i : Int) = y at hy ⊢
    obtain ⟨kind, s, n⟩ := y
    simp only at hy ⊢
    by_cases c1 : kind = 1
    · rw [if_pos c1]
      obtain ⟨p', off', e, ⟨he, hb, hr⟩ | ⟨he, hr⟩⟩ := write_cases sf rs p off s (by omega)
      · rw [hr]
        simp only [Option.bind_some]
        rw [if_pos he, if_pos (by omega)]
        exact go sf (rs ++ s) (all ++ s) p' off' (by rw [ha, ByteArray.append_assoc]) (by rw [ByteArray.size_append]; omega)
      · rw [hr]
        simp only [Option.bind_some]
        rw [if_neg he]
        exact go sf rs all p' off' ha hs
    rw [if_neg c1]
    by_cases c2 : kind = 2
    · rw [if_pos c2]
      obtain ⟨p', off', e, ⟨he, hr⟩ | ⟨he, hr⟩⟩ := sync_cases sf rs p off (by omega)
      · rw [hr]
        simp only [Option.bind_some]
        rw [if_pos he, ← ha]
        exact go all _ all p' off' (app_emp all).symm (by rw [has, e0]; omega)
      · rw [hr]
        simp only [Option.bind_some]
        rw [if_neg he]
        exact go sf rs all p' off' ha hs
    rw [if_neg c2]
    by_cases c3 : kind = 3
    · rw [if_pos c3]
      obtain ⟨p', off', e, ⟨he, hb, hr⟩ | ⟨he, hr⟩⟩ := install_cases sf rs p off s (by omega)
      · rw [hr]
        simp only [Option.bind_some]
        rw [if_pos he]
        exact go s _ s p' off' (app_emp s).symm (by rw [e0]; omega)
      · rw [hr]
        simp only [Option.bind_some]
        rw [if_neg he]
        exact go sf rs all p' off' ha hs
    rw [if_neg c3]
    by_cases c4 : kind = 4
    · rw [if_pos c4]
      obtain ⟨m, hm, hm2, e⟩ := crash_f sf rs p off n (by omega)
      have hz2 : (sf ++ rs.extract 0 m).size = sf.size + m := by rw [ByteArray.size_append, ext_size rs m hm]
      have q1 : all.extract 0 (sf.size + m) = sf ++ rs.extract 0 m := by rw [ha, ext_more sf rs _ m rfl]
      have q2 : (sf ++ rs.extract 0 m).extract 0 sf.size = sf := ext_left sf _ _ rfl
      rw [e]
      clear e
      generalize sf ++ rs.extract 0 m = z at hz2 q1 q2 ⊢
      simp only [Option.bind_some]
      rw [read_f z (-1) (by omega)]
      simp only [Option.bind_some]
      rw [if_pos trivial, if_neg (by omega), if_neg (by omega), if_pos (by omega), if_pos (by omega), if_pos (by rw [Int.toNat_natCast, hz2, q1]), if_pos (by omega), if_pos (by omega), if_pos (by rw [Int.toNat_natCast, q2])]
      exact go z _ z _ _ (app_emp z).symm (by rw [e0]; omega)
    rw [if_neg c4]
    by_cases c5 : kind = 5
    · rw [if_pos c5]
      rw [show tape_Powered.f sf rs p off n = some (sf, rs, mx n (-1), off) from rfl, Option.bind_some]
      exact go sf rs all (mx n (-1)) off ha hs
    · rw [if_neg c5]
      exact go sf rs all _ _ ha hs
theorem TapeLasts : ferrulelaw03_TapeLasts.Pure := by
  intro l ⟨h1, h2, h3⟩
  refine ⟨0 + l.length + 1, ?_⟩
  unfold ferrulelaw03_TapeLasts.f
  rw [shown_true]
  simp only [Option.bind_some]
  exact lasts_loop l (by omega) (fun y hy => (h3 y hy).2.1) l.length 0 0 _ _ _ _ _ (by omega) (app_emp _).symm (by decide)
end Go.Proofs.Ytofdgkcaimifkaa.Pure
