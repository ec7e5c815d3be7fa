/- The pure statement of the law SerialChain, proved. Conditions: none. -/
import Derived.Test.YtbadlkhelhomjaaDefSerialChain
import Derived.Test.YtbadlkhelhomjaaSerL
namespace Go.Proofs.Ytbadlkhelhomjaa.Pure
open Go.RowKit Go.Proofs.Ytbadlkhelhomjaa.Pr Go.Proofs.YtbadlkhelhomjaaW.PrintWords Go.Proofs.YtbadlkhelhomjaaW.PrintLast Go.Proofs.YtbadlkhelhomjaaW.PrintMore
set_option linter.unusedVariables false
theorem pick_spec (l : List S27) (out : List Int) (d : Nat) : ∀ i : Nat, ¬ pickN l out d i < 0 → ∃ j : Nat, pickN l out d i = (j : Int) ∧ j < i + d ∧ takenB out (j : Int) = false ∧ freeB l (takenB out) j = true := by
  induction d with
  | zero =>
    intro i h
    exact absurd (show (-1 : Int) < 0 by omega) h
  | succ d ih =>
    intro i h
    unfold pickN at h ⊢
    by_cases hc : (!(takenB out (i : Int)) && freeB l (takenB out) i) = true
    · rw [if_pos hc]
      rw [Bool.and_eq_true, Bool.not_eq_true'] at hc
      exact ⟨i, rfl, by omega, hc.1, hc.2⟩
    · rw [if_neg hc] at h ⊢
      obtain ⟨j, h1, h2, h3⟩ := ih (i + 1) h
      exact ⟨j, h1, by omega, h3⟩
def OkA (l : List S27) (a : List Int) (lo : Nat) : Prop := ∀ m : Nat, lo ≤ m → ∀ h : m < a.length, ∃ j : Nat, a[m] = (j : Int) ∧ j < l.length ∧ takenB (a.take m) (j : Int) = false ∧ freeB l (takenB (a.take m)) j = true
theorem order_spec (l : List S27) (d : Nat) : ∀ out : List Int, (orderN l d out).2 = 0 → (orderN l d out).1.length = out.length + d ∧ (∃ t, (orderN l d out).1 = out ++ t) ∧ OkA l (orderN l d out).1 out.length := by
  induction d with
  | zero =>
    intro out _
    exact ⟨rfl, ⟨[], by simp [orderN]⟩, fun m h1 h2 => absurd h2 (by show ¬ m < out.length; omega)⟩
  | succ d ih =>
    intro out h
    unfold orderN at h ⊢
    by_cases hp : pickN l out l.length 0 < 0
    · rw [if_pos hp] at h
      exact absurd h (by decide)
    · rw [if_neg hp] at h ⊢
      obtain ⟨j, h1, h2, h3, h4⟩ := pick_spec l out l.length 0 hp
      rw [h1] at h ⊢
      obtain ⟨g1, ⟨t, g2⟩, g3⟩ := ih (out ++ [(j : Int)]) h
      rw [List.length_append, List.length_singleton] at g1 g3
      refine ⟨by omega, ⟨[(j : Int)] ++ t, by rw [g2, List.append_assoc]⟩, fun m hm hlt => ?_⟩
      by_cases e : m = out.length
      · subst e
        refine ⟨j, ?_, by omega, ?_, ?_⟩
        · simp [g2]
        · rw [g2]; simpa using h3
        · rw [g2]; simpa using h4
      · exact g3 m (by omega) hlt
theorem taken_false {out : List Int} {x : Int} (h : takenB out x = false) : ∀ y ∈ out, y ≠ x := by
  unfold takenB at h
  rw [List.any_eq_false] at h
  intro y hy e
  exact h y hy (by simp [e])
theorem ok_ne {l : List S27} {a : List Int} (h : OkA l a 0) (m m' : Nat) (hm : m < a.length) (hlt : m' < m) : a[m']'(by omega) ≠ a[m] := by
  obtain ⟨j, h1, _, h3, _⟩ := h m (by omega) hm
  rw [h1]
  refine taken_false h3 _ ?_
  rw [List.mem_take_iff_getElem]
  exact ⟨m', by omega, rfl⟩
theorem cnt_step (p q : Nat → Bool) (j : Nat) (hq : ∀ i, q i = (p i || decide (j = i))) (hj : p j = false) (n : Nat) : (List.range n).countP q = (List.range n).countP p + if j < n then 1 else 0 := by
  induction n with
  | zero => simp
  | succ n ih =>
    rw [List.range_succ, List.countP_append, List.countP_append, ih, List.countP_singleton, List.countP_singleton, hq n]
    by_cases e : j = n
    · subst e
      simp [hj]
    · have h1 : decide (j = n) = false := decide_eq_false e
      rw [h1, Bool.or_false]
      by_cases h2 : j < n
      · have h3 : j < n + 1 := by omega
        simp only [h2, h3, if_true]
        omega
      · have h3 : ¬ j < n + 1 := by omega
        simp only [h2, h3, if_false]
        omega
theorem ok_cnt {l : List S27} {a : List Int} (h : OkA l a 0) (m : Nat) : m ≤ a.length → (List.range l.length).countP (fun i => takenB (a.take m) ((i : Nat) : Int)) = m := by
  induction m with
  | zero =>
    intro _
    simp [takenB]
  | succ m ih =>
    intro hm
    obtain ⟨j, h1, h2, h3, _⟩ := h m (by omega) (by omega)
    have := cnt_step (fun i => takenB (a.take m) ((i : Nat) : Int)) (fun i => takenB (a.take (m + 1)) ((i : Nat) : Int)) j (fun i => by
      rw [List.take_succ_eq_append_getElem (by omega), h1]
      unfold takenB
      rw [List.any_append]
      by_cases e : j = i
      · simp [e]
      · have e2 : ¬ ((j : Int) = (i : Int)) := by omega
        simp [e, e2]) h3 l.length
    rw [this, ih (by omega), if_pos h2]
theorem ok_all {l : List S27} {a : List Int} (h : OkA l a 0) (hl : a.length = l.length) (k : Nat) (hk : k < l.length) : ∃ (m : Nat) (hm : m < a.length), a[m] = (k : Int) := by
  have hc := ok_cnt h a.length (Nat.le_refl _)
  rw [List.take_length] at hc
  have := (List.countP_eq_length (p := fun i : Nat => takenB a (i : Int)) (l := List.range l.length)).1 (by rw [hc, List.length_range, hl]) k (List.mem_range.2 hk)
  unfold takenB at this
  obtain ⟨y, hy, he⟩ := List.any_eq_true.1 this
  obtain ⟨m, hm, rfl⟩ := List.getElem_of_mem hy
  exact ⟨m, hm, by simpa using he⟩
theorem free_at {l : List S27} {S : Int → Bool} {i k : Nat} (h : freeB l S i = true) (hk : k < l.length) : hindB l S i k = false := by
  cases hh : hindB l S i k with
  | false => rfl
  | true =>
    rw [free_no k hk hh] at h
    cases h
theorem pick_some (l : List S27) (out : List Int) (i : Nat) (ht : takenB out (i : Int) = false) (hf : freeB l (takenB out) i = true) (d : Nat) : ∀ s : Nat, s ≤ i → i < s + d → ¬ pickN l out d s < 0 := by
  induction d with
  | zero => intro s h1 h2; omega
  | succ d ih =>
    intro s h1 h2
    unfold pickN
    by_cases hc : (!(takenB out (s : Int)) && freeB l (takenB out) s) = true
    · rw [if_pos hc]; omega
    · rw [if_neg hc]
      by_cases e : s = i
      · subst e
        rw [ht, hf] at hc
        exact absurd rfl hc
      · exact ih (s + 1) (by omega) (by omega)
theorem rd_atI' (o : List Int) (n : Nat) (h : n < o.length) : rd o (n : Int) = o[n] := by simp [rd, List.getD_eq_getElem?_getD, h]
theorem u64w (x : Int) (h0 : 0 ≤ x) (h1 : x < 18446744073709551616) : IntKind.u64.wrap x = x := by
  simp [IntKind.wrap, IntKind.bits, IntKind.signed]
  omega
def vv (M s i : Nat) : Nat := if i + s < M then i + s else i + s - M
def DD (key : ByteArray) (M s i : Nat) : S27 := ⟨⟨0, 0⟩, 0, 0, [⟨1, key, ((vv M s i : Nat) : Int)⟩], [⟨1, key, ((vv M s i : Nat) : Int) + 1⟩]⟩
def LL (key : ByteArray) (M s n : Nat) : List S27 := (List.range n).map (DD key M s)
theorem LL_len (key : ByteArray) (M s n : Nat) : (LL key M s n).length = n := by simp [LL]
theorem rd_LL (key : ByteArray) (M s n i : Nat) (h : i < n) : rd_T27 (LL key M s n) (i : Int) = DD key M s i := by
  rw [rd_at27 _ i (by rw [LL_len]; exact h)]
  simp [LL]
theorem vv_inj {M s a b : Nat} (hs : s < M) (ha : a < M) (hb : b < M) (h : vv M s a = vv M s b) : a = b := by
  unfold vv at h
  split at h <;> split at h <;> omega
theorem vv_surj {M s m : Nat} (hs : s < M) (hm : m < M) : ∃ i, i < M ∧ vv M s i = m := by
  by_cases h : s ≤ m
  · exact ⟨m - s, by omega, by unfold vv; rw [if_pos (by omega)]; omega⟩
  · exact ⟨m + M - s, by omega, by unfold vv; rw [if_neg (by omega)]; omega⟩
theorem vv_lt {M s a : Nat} (hs : s < M) (ha : a < M) : vv M s a < M := by
  unfold vv
  split <;> omega
theorem ahead_DD (key : ByteArray) (M s a b : Nat) : aheadB (DD key M s a) (DD key M s b) = decide (vv M s a ≤ vv M s b) := by
  unfold aheadB DD meet17 meet18 pM17 pM18 plB
  simp only [List.any_cons, List.any_nil, Bool.or_false, beq_self_eq_true, Bool.true_and, Bool.not_true, Bool.false_and, Bool.false_or]
  by_cases h : vv M s a ≤ vv M s b
  · rw [decide_eq_true h, decide_eq_true (show ((vv M s a : Nat) : Int) < ((vv M s b : Nat) : Int) + 1 by omega)]
    simp
  · rw [decide_eq_false h, decide_eq_false (show ¬ ((vv M s a : Nat) : Int) + 1 ≤ ((vv M s b : Nat) : Int) by omega), decide_eq_false (show ¬ ((vv M s a : Nat) : Int) < ((vv M s b : Nat) : Int) + 1 by omega), decide_eq_false (show ¬ ((vv M s a : Nat) : Int) + 1 < ((vv M s b : Nat) : Int) + 1 by omega)]
    rfl
theorem chain_v {key : ByteArray} {M s : Nat} (hs : s < M) {a : List Int} (hok : OkA (LL key M s M) a 0) (m : Nat) : ∀ hm : m < a.length, ∃ j : Nat, a[m] = (j : Int) ∧ j < M ∧ vv M s j = m := by
  induction m using Nat.strongRecOn with
  | ind m ih =>
    intro hm
    obtain ⟨j, h1, h2, h3, h4⟩ := hok m (by omega) hm
    rw [LL_len] at h2
    refine ⟨j, h1, h2, ?_⟩
    have hge : ¬ vv M s j < m := fun hlt => by
      obtain ⟨q, g1, g2, g3⟩ := ih (vv M s j) hlt (by omega)
      have e : q = j := vv_inj hs g2 h2 g3
      have := ok_ne hok m (vv M s j) hm hlt
      rw [g1, h1, e] at this
      exact this rfl
    by_cases e : vv M s j = m
    · exact e
    · have hvl := vv_lt hs h2
      obtain ⟨i0, hi0, hv0⟩ := vv_surj (m := m) hs (by omega)
      have hh := free_at h4 (k := i0) (by rw [LL_len]; exact hi0)
      have ht : takenB (a.take m) (i0 : Int) = false := by
        unfold takenB
        rw [List.any_eq_false]
        intro y hy
        obtain ⟨m2, hm2, rfl⟩ := List.mem_take_iff_getElem.1 hy
        obtain ⟨q, g1, g2, g3⟩ := ih m2 (by omega) (by omega)
        have hne : ¬ q = i0 := fun e => by rw [e, hv0] at g3; omega
        have hne2 : ¬ (q : Int) = (i0 : Int) := by omega
        rw [g1]
        simpa using hne2
      unfold hindB at hh
      rw [ht, decide_eq_false (show ¬ i0 = j from fun e2 => e (by rw [← e2]; exact hv0)), rd_LL _ _ _ _ _ hi0, rd_LL _ _ _ _ _ h2, ahead_DD, hv0, decide_eq_true (show m ≤ vv M s j by omega)] at hh
      cases hh
theorem chain_go {key : ByteArray} {M s : Nat} (hs : s < M) (d : Nat) : ∀ out : List Int, OkA (LL key M s M) out 0 → out.length + d = M → (orderN (LL key M s M) d out).2 = 0 := by
  induction d with
  | zero => intro out _ _; rfl
  | succ d ih =>
    intro out hok hl
    obtain ⟨i0, hi0, hv0⟩ := vv_surj (m := out.length) hs (by omega)
    have ht : takenB out (i0 : Int) = false := by
      unfold takenB
      rw [List.any_eq_false]
      intro y hy
      obtain ⟨m2, hm2, rfl⟩ := List.getElem_of_mem hy
      obtain ⟨q, g1, g2, g3⟩ := chain_v hs hok m2 hm2
      have hne : ¬ q = i0 := fun e => by rw [e, hv0] at g3; omega
      have hne2 : ¬ (q : Int) = (i0 : Int) := by omega
      rw [g1]
      simpa using hne2
    have hf : freeB (LL key M s M) (takenB out) i0 = true := free_yes (fun k hk => by
      rw [LL_len] at hk
      unfold hindB
      by_cases e : k = i0
      · rw [decide_eq_true e]; rfl
      · cases htk : takenB out (k : Int) with
        | true => simp
        | false =>
          have hlt : ¬ vv M s k ≤ vv M s i0 := fun hle => by
            by_cases e2 : vv M s k = vv M s i0
            · exact e (vv_inj hs hk hi0 e2)
            · obtain ⟨q, g1, g2, g3⟩ := chain_v hs hok (vv M s k) (by omega)
              have eq : q = k := vv_inj hs g2 hk g3
              have : takenB out (k : Int) = true := by
                unfold takenB
                exact List.any_eq_true.2 ⟨out[vv M s k]'(by omega), List.getElem_mem _, by rw [g1, eq]; simp⟩
              rw [htk] at this
              cases this
          rw [rd_LL _ _ _ _ _ hk, rd_LL _ _ _ _ _ hi0, ahead_DD, decide_eq_false hlt]
          simp)
    have hp := pick_some (LL key M s M) out i0 ht hf (LL key M s M).length 0 (by omega) (by rw [LL_len]; omega)
    unfold orderN
    rw [if_neg hp]
    obtain ⟨j, h1, h2, h3, h4⟩ := pick_spec _ out (LL key M s M).length 0 hp
    rw [h1]
    refine ih _ (fun m hlo hm => ?_) (by rw [List.length_append, List.length_singleton]; omega)
    rw [List.length_append, List.length_singleton] at hm
    by_cases e : m = out.length
    · subst e
      exact ⟨j, by simp, by omega, by simpa using h3, by simpa using h4⟩
    · obtain ⟨q, g1, g2, g3, g4⟩ := hok m (by omega) (by omega)
      exact ⟨q, by rw [List.getElem_append_left (by omega)]; exact g1, g2, by rw [List.take_append_of_le_length (by omega)]; exact g3, by rw [List.take_append_of_le_length (by omega)]; exact g4⟩
theorem chain_l1 (key : ByteArray) (M s : Nat) (hs : s < M) (hM : M ≤ 40) (a : List Int) (ha : a.length = M) (hok : OkA (LL key M s M) a 0) (d : Nat) : ∀ m : Nat, m + d = M → Ev (fun k => ferrulelaw21_SerialChain.l1 k (M : Int) true (LL key M s M) a (m : Int)) true := by
  induction d with
  | zero =>
    intro m hm
    refine Ev.step (f := fun _ => some true) (fun k => ?_) (Ev.now _)
    rw [ferrulelaw21_SerialChain.l1, if_neg (by omega)]
  | succ d ih =>
    intro m hm
    have hw : wrap64 ((m : Int) + 1) = ((m + 1 : Nat) : Int) := by rw [wrap64_in (by omega) (by omega)]; omega
    obtain ⟨j, h1, h2, h3⟩ := chain_v hs hok m (by omega)
    have hrd : rd a (m : Int) = (j : Int) := by rw [rd_atI' a m (by omega), h1]
    refine Ev.step (fun k => ?_) (ih (m + 1) (by omega))
    have hf : (rd_T40 (DD key M s j).f3 0).f2 = IntKind.u64.wrap (m : Int) := by
      rw [u64w _ (by omega) (by omega)]
      show ((vv M s j : Nat) : Int) = (m : Int)
      rw [h3]
    rw [ferrulelaw21_SerialChain.l1, if_pos (by omega), if_pos (by omega), if_pos (by omega), hrd, if_neg (by omega), if_neg (by omega), if_pos (by omega), if_pos (by rw [LL_len]; omega), rd_LL _ _ _ _ _ h2, if_pos (show (0 : Int) < (((DD key M s j).f3.length : Nat) : Int) by show (0 : Int) < ((1 : Nat) : Int); omega), if_pos hf, hw]
theorem chain_l0 (key : ByteArray) (M t : Nat) (h1 : 1 ≤ M) (hM : M ≤ 40) (d : Nat) : ∀ i : Nat, i + d = M → Ev (fun k => ferrulelaw21_SerialChain.l0 k (M : Int) (t : Int) key true (LL key M (t % M) i) (i : Int)) true := by
  have hs : t % M < M := Nat.mod_lt _ (by omega)
  induction d with
  | zero =>
    intro i hi
    have e : i = M := by omega
    subst e
    have hz : (orderN (LL key i (t % i) i) i []).2 = 0 := chain_go hs i [] (fun m _ h => absurd h (by simp)) (by simp)
    obtain ⟨g1, _, g3⟩ := order_spec (LL key i (t % i) i) i [] hz
    rw [List.length_nil, Nat.zero_add] at g1
    have eo : orderB (LL key i (t % i) i) = orderN (LL key i (t % i) i) i [] := by
      unfold orderB
      rw [LL_len, if_neg (by omega)]
    refine Ev.step (f := fun k => ferrulelaw21_SerialChain.j2 k (i : Int) true (LL key i (t % i) i) (orderN (LL key i (t % i) i) i []).1 false) (fun k => ?_) (Ev.step (f := fun k => ferrulelaw21_SerialChain.l1 k (i : Int) true (LL key i (t % i) i) (orderN (LL key i (t % i) i) i []).1 ((0 : Nat) : Int)) (fun k => ?_) (chain_l1 key i (t % i) hs hM _ g1 g3 i 0 (by omega)))
    · rw [ferrulelaw21_SerialChain.l0, if_neg (by omega)]
      unfold serial_Order.f
      rw [Option.bind_some, eo, if_pos hz, g1]
      simp
    · rw [ferrulelaw21_SerialChain.j2, if_neg (by decide)]
      rfl
  | succ d ih =>
    intro i hi
    have hw : wrap64 ((i : Int) + 1) = ((i + 1 : Nat) : Int) := by rw [wrap64_in (by omega) (by omega)]; omega
    have hv := vv_lt hs (show i < M by omega)
    have e1 : IntKind.u64.wrap (Int.tmod (wrap64 ((i : Int) + Int.tmod (t : Int) (M : Int))) (M : Int)) = ((vv M (t % M) i : Nat) : Int) := by
      have a1 : Int.tmod (t : Int) (M : Int) = ((t % M : Nat) : Int) := rfl
      rw [a1, wrap64_in (by omega) (by omega), ← Int.natCast_add]
      have a2 : Int.tmod ((i + t % M : Nat) : Int) (M : Int) = (((i + t % M) % M : Nat) : Int) := rfl
      have a3 : (i + t % M) % M = vv M (t % M) i := by
        unfold vv
        by_cases h : i + t % M < M
        · rw [if_pos h, Nat.mod_eq_of_lt h]
        · rw [if_neg h, Nat.mod_eq_sub_mod (by omega), Nat.mod_eq_of_lt (by omega)]
      rw [a2, a3, u64w _ (by omega) (by omega)]
    have e2 : LL key M (t % M) (i + 1) = LL key M (t % M) i ++ [DD key M (t % M) i] := by
      unfold LL
      rw [List.range_succ, List.map_append]
      rfl
    have h := ih (i + 1) (by omega)
    rw [e2] at h
    refine Ev.step (fun k => ?_) h
    rw [ferrulelaw21_SerialChain.l0, if_pos (by omega), if_neg (by omega), if_pos (by rw [LL_len]; omega), e1, u64w (((vv M (t % M) i : Nat) : Int) + 1) (by omega) (by omega), hw]
    rfl
theorem SerialChain : ferrulelaw21_SerialChain.Pure := by
  intro m t key _ _ _
  refine Ev.rounds ?_
  unfold ferrulelaw21_SerialChain.f ferrulelaw21_shown.f
  simp only [Option.bind_some]
  have ht : Ev (fun k => ferrulelaw21_SerialChain.j0 k m t key true true) true := by
    refine Ev.step (f := fun _ => some true) (fun k => ?_) (Ev.now _)
    rw [ferrulelaw21_SerialChain.j0, if_pos rfl]
  by_cases h1 : m < 1
  · simp only [h1, if_true]
    exact ht
  · by_cases h2 : m > 40
    · simp only [h1, h2, if_true, if_false]
      exact ht
    · simp only [h1, h2, if_false]
      by_cases h3 : t < 0
      · rw [decide_eq_true h3]
        exact ht
      · rw [decide_eq_false h3]
        obtain ⟨M, rfl⟩ : ∃ M : Nat, m = (M : Int) := ⟨m.toNat, by omega⟩
        obtain ⟨n, rfl⟩ : ∃ n : Nat, t = (n : Int) := ⟨t.toNat, by omega⟩
        refine Ev.step (fun k => ?_) (chain_l0 key M n (by omega) (by omega) M 0 (by omega))
        rw [ferrulelaw21_SerialChain.j0, if_neg (by decide)]
        rfl
end Go.Proofs.Ytbadlkhelhomjaa.Pure
