/- A state is folded from its least notes as it was, and recovered from a tape on which they lie: plain laws. Conditions: none. -/
import Derived.Test.YtfjhlcbpogihmaaKNoteBack9
import Derived.Test.YtfjhlcbpogihmaaGNoteBackHandCompact
import Derived.Test.YtfjhlcbpogihmaaGNoteBackNoteM
namespace Go.Proofs.Ytfjhlcbpogihmaa.Pr
open Go.RowKit Go.Proofs.YtfjhlcbpogihmaaW.PrintWords Go.Proofs.YtfjhlcbpogihmaaW.PrintLast Go.Proofs.YtfjhlcbpogihmaaW.PrintMore
set_option linter.unusedVariables false
set_option linter.unusedSimpArgs false
theorem step_ent (st : NSt) (e : S75) (x : Int) (hx : x = st.base + st.es.length + 1) (h1 : st.es.length < 1024) (h2 : x ≤ 1099511627776) : stepN st ⟨2, x, e.f0, 0, e.f1⟩ = { st with es := st.es ++ [e] } := by
  have hn : isNext st ⟨2, x, e.f0, 0, e.f1⟩ := ⟨hx, h1, h2⟩
  unfold stepN
  rw [if_neg (show ¬ (2 : Int) = 1 by decide), if_pos (show (2 : Int) = 2 from rfl), if_pos hn]
theorem fold_ents (b : Int) (hb : 0 ≤ b) (r : List S75) : ∀ (st : NSt) (i : Nat), st.base = b → st.es.length = i → i + r.length ≤ 1024 → b + i + r.length ≤ 1099511627776 → (entNotes b i r).foldl stepN st = { st with es := st.es ++ r } := by
  induction r with
  | nil =>
    intro st i _ _ _ _
    simp [entNotes]
  | cons e r ih =>
    intro st i hsb hsi h1 h3
    rw [List.length_cons] at h1 h3
    have hs := step_ent st e (b + i + 1) (by rw [hsb, hsi]) (by omega) (by omega)
    have ih2 := ih { st with es := st.es ++ [e] } (i + 1) hsb (by simp [hsi]) (by omega) (by omega)
    simp only [entNotes, List.foldl_cons]
    rw [hs, ih2]
    simp
theorem size_none {a : ByteArray} (h : a.size = 0) : a = (⟨#[]⟩ : ByteArray) := by
  apply ByteArray.ext
  exact Array.eq_empty_of_size_eq_zero h
/-- A state is folded from its least notes as it was. -/
theorem fold_least {t v b bt : Int} {s : ByteArray} {es : List S75} (h : mayS t v b bt s es = true) (hb : 0 ≤ b) (hbt : 0 ≤ bt) : foldN (leastN t v b bt s es) = ⟨t, v, b, bt, s, es⟩ := by
  obtain ⟨h1, h2, h3, h4, h5, h6, h7, h8, h9⟩ := mayS_facts h
  unfold foldN leastN
  rw [List.foldl_append]
  by_cases hb0 : b > 0
  · rw [if_pos hb0]
    have hs : List.foldl stepN nst0 [⟨1, 0, t, v, ⟨#[]⟩⟩, ⟨4, b, bt, 0, s⟩] = ⟨t, v, b, bt, s, []⟩ := by
      rw [List.foldl_cons, List.foldl_cons, List.foldl_nil]
      unfold stepN
      rw [if_pos (show (1 : Int) = 1 from rfl), if_neg (show ¬ (4 : Int) = 1 by decide), if_neg (show ¬ (4 : Int) = 2 by decide), if_neg (show ¬ (4 : Int) = 3 by decide), if_pos (show (4 : Int) = 4 from rfl)]
      unfold behindN nst0
      rw [if_neg (by dsimp only; omega)]
      dsimp only
      split <;> simp
    rw [hs]
    have := fold_ents b hb es ⟨t, v, b, bt, s, []⟩ 0 rfl rfl (by omega) (by omega)
    simpa using this
  · rw [if_neg hb0]
    have e0 : b = 0 := by omega
    subst e0
    obtain ⟨g1, g2⟩ := h8 rfl
    have e1 : bt = 0 := by omega
    subst e1
    have e2 := size_none g2
    subst e2
    have hs : List.foldl stepN nst0 [⟨1, 0, t, v, ⟨#[]⟩⟩] = ⟨t, v, 0, 0, ⟨#[]⟩, []⟩ := by
      rw [List.foldl_cons, List.foldl_nil]
      unfold stepN
      rw [if_pos rfl]
      rfl
    rw [hs]
    have := fold_ents 0 (Int.le_refl _) es ⟨t, v, 0, 0, ⟨#[]⟩, []⟩ 0 rfl rfl (by omega) (by omega)
    simpa using this
theorem ents_facts (hi : Int) : ∀ (es : List S75) (t : Int), 0 ≤ t → entsOk hi t es = true → ∀ e ∈ es, 0 ≤ e.f0 ∧ e.f0 ≤ hi ∧ e.f1.size ≤ 4096
  | [], _, _, _, e, he => absurd he List.not_mem_nil
  | x :: r, t, ht, h, e, he => by
    rw [entsOk_cons] at h
    by_cases c1 : x.f0 < t
    · rw [if_pos c1] at h; cases h
    rw [if_neg c1] at h
    by_cases c2 : x.f0 > hi
    · rw [if_pos c2] at h; cases h
    rw [if_neg c2] at h
    by_cases c3 : (x.f1.size : Int) > 4096
    · rw [if_pos c3] at h; cases h
    rw [if_neg c3] at h
    rcases List.mem_cons.1 he with rfl | he
    · exact ⟨by omega, by omega, by omega⟩
    · exact ents_facts hi r x.f0 (by omega) h e he
theorem ents_notes (b : Int) : ∀ (es : List S75) (i : Nat) (n : S39), n ∈ entNotes b i es → ∃ e ∈ es, ∃ j : Nat, j < i + es.length ∧ n = ⟨2, b + j + 1, e.f0, 0, e.f1⟩
  | [], _, n, hn => absurd hn List.not_mem_nil
  | e :: r, i, n, hn => by
    rw [entNotes] at hn
    rcases List.mem_cons.1 hn with rfl | hn
    · exact ⟨e, List.mem_cons_self .., i, by rw [List.length_cons]; omega, rfl⟩
    · obtain ⟨e', he', j, hj, rfl⟩ := ents_notes b r (i + 1) n hn
      exact ⟨e', List.mem_cons_of_mem _ he', j, by rw [List.length_cons]; omega, rfl⟩
theorem least_ok {t v b bt : Int} {s : ByteArray} {es : List S75} (h : mayS t v b bt s es = true) (ht : 0 ≤ t) (hv : 0 ≤ v) (hb : 0 ≤ b) (hbt : 0 ≤ bt) : ∀ n ∈ leastN t v b bt s es, okNote n := by
  obtain ⟨h1, h2, h3, h4, h5, h6, h7, h8, h9⟩ := mayS_facts h
  have n1 : okNote ⟨1, 0, t, v, ⟨#[]⟩⟩ := by
    refine ⟨?_, Int.le_refl _, ht, hv⟩
    show nmayB 1 0 t v ⟨#[]⟩ = true
    unfold nmayB nm1
    rw [if_pos rfl]
    refine decide_eq_true ⟨?_, ?_⟩
    · unfold nmP1; simp
    · unfold nmIn; exact ⟨by omega, by omega, by omega, by decide⟩
  have n4 : ∀ (kd : Int), kd = 2 ∨ kd = 4 → ∀ (i u : Int) (d : ByteArray), 0 ≤ i → i ≤ 4611686018427387903 → 0 ≤ u → u ≤ 4611686018427387903 → d.size ≤ 4096 → okNote ⟨kd, i, u, 0, d⟩ := by
    intro kd hk i u d g1 g2 g3 g4 g5
    refine ⟨?_, g1, g3, Int.le_refl _⟩
    show nmayB kd i u 0 d = true
    have hin : nmIn i u 0 d := by unfold nmIn; exact ⟨by omega, by omega, by omega, by omega⟩
    have hp : nmP2 i u 0 d := by unfold nmP2; simp
    unfold nmayB nm2
    rcases hk with rfl | rfl
    · rw [if_neg (by decide), if_pos rfl]; exact decide_eq_true ⟨hp, hin⟩
    · rw [if_neg (by decide), if_neg (by decide), if_neg (by decide), if_pos rfl]; exact decide_eq_true ⟨hp, hin⟩
  intro n hn
  unfold leastN at hn
  rcases List.mem_append.1 hn with hn | hn
  · by_cases hb0 : b > 0
    · rw [if_pos hb0] at hn
      rcases List.mem_cons.1 hn with rfl | hn
      · exact n1
      · rw [List.mem_singleton.1 hn]
        exact n4 4 (.inr rfl) b bt s hb (by omega) hbt (by omega) (by omega)
    · rw [if_neg hb0] at hn
      rw [List.mem_singleton.1 hn]
      exact n1
  · obtain ⟨e, he, j, hj, rfl⟩ := ents_notes b es 0 n hn
    obtain ⟨f1, f2, f3⟩ := ents_facts t es bt hbt h9 e he
    exact n4 2 (.inl rfl) _ _ _ (by omega) (by omega) f1 (by omega) f3
theorem least_len {t v b bt : Int} {s : ByteArray} {es : List S75} : (leastN t v b bt s es).length ≤ es.length + 2 := by
  have he : ∀ (r : List S75) (i : Nat), (entNotes b i r).length = r.length := by
    intro r
    induction r with
    | nil => intro i; rfl
    | cons e r ih => intro i; rw [entNotes, List.length_cons, List.length_cons, ih]
  unfold leastN
  rw [List.length_append, he]
  split <;> simp <;> omega
theorem seal_max {n : S39} (h : okNote n) : (sealB (nA n)).size ≤ 65600 := by
  have h1 := nA_le h
  have h2 := sealB_size (nA n)
  have h3 := sizeI_cases ((nA n).size : Int)
  omega
theorem join_max : ∀ ns : List S39, (∀ n ∈ ns, okNote n) → (joinN ns).size ≤ 65600 * ns.length
  | [], _ => Nat.zero_le _
  | n :: r, h => by
    have h1 := join_max r (fun x hx => h x (List.mem_cons_of_mem _ hx))
    have h2 := seal_max (h n (List.mem_cons_self ..))
    rw [joinN, ByteArray.size_append, List.length_cons]
    omega
theorem compF_join (k : Nat) : ∀ (ns : List S39) (acc : List UInt8), (∀ n ∈ ns, okNote n) → acc.length + (joinN ns).size ≤ 140737488355328 → compF k ns acc = some (acc ++ (joinN ns).data.toList)
  | [], acc, _, _ => by
    rw [compF, joinN]
    exact congrArg some (List.append_nil _).symm
  | n :: r, acc, h, hb => by
    obtain ⟨hm, g1, g2, g3⟩ := h n (List.mem_cons_self ..)
    rw [joinN, ByteArray.size_append] at hb
    have hd : (sealB (nA n)).data.toList.length = (sealB (nA n)).size := dlen _
    have hB : note_Bytes.f k n.f0 n.f1 n.f2 n.f3 n.f4 = some (sealB (nA n), 0) := nbytes_1 hm g1 g2 g3 k
    unfold compF
    rw [hB]
    simp only [Option.bind_some]
    rw [if_pos (by omega), compF_join k r _ (fun x hx => h x (List.mem_cons_of_mem _ hx)) (by rw [List.length_append, hd]; omega), joinN, app_list, List.append_assoc]
/-- What is recovered from a tape on which whole notes lie. -/
theorem recover_all (ns : List S39) (S R : ByteArray) (hok : ∀ n ∈ ns, okNote n) (hb : (joinN ns).size ≤ 262144) (hl : ns.length ≤ 1000000) (hSR : S ++ R = joinN ns) :
    Ev (fun k => note_Recover.f k S R (-1) false) ((foldN ns).term, (foldN ns).vote, (foldN ns).base, (foldN ns).bt, (foldN ns).snap, (foldN ns).es, S, R, -1, false, 0) := by
  have hr := read_all ns hok (by omega) (by omega)
  have hf := fold_1 hok hl
  have hss : S.size + R.size = (joinN ns).size := by rw [← ByteArray.size_append, hSR]
  have ht : tape_Read.f S R (-1) false = some (joinN ns, 0) := by
    unfold tape_Read.f
    rw [if_neg (by decide), if_pos (by omega), hSR]
  unfold note_Recover.f
  rw [ht]
  simp only [Option.bind_some, if_true]
  refine Ev.bind hr ?_
  refine Ev.congr (f := fun _ => some ((foldN ns).term, (foldN ns).vote, (foldN ns).base, (foldN ns).bt, (foldN ns).snap, (foldN ns).es, S, R, -1, false, 0)) (fun k => ?_) (Ev.now _)
  dsimp only
  rw [if_neg (by omega), hf]
  rfl
end Go.Proofs.Ytfjhlcbpogihmaa.Pr
