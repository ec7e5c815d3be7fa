/- The pure statement of the law LockWounds, proved. Conditions: none. -/
import Derived.Test.YtgmflfbhifdacaaDefLockWounds
import Derived.Test.YtgmflfbhifdacaaLockL
namespace Go.Proofs.Ytgmflfbhifdacaa.Pure
open Go.RowKit Go.Proofs.Ytgmflfbhifdacaa.Pr Go.Proofs.YtgmflfbhifdacaaW.PrintWords Go.Proofs.YtgmflfbhifdacaaW.PrintLast Go.Proofs.YtgmflfbhifdacaaW.PrintMore
theorem inB_at (l : List S25) (i : Nat) (h : i < l.length) (x : S25) : inB (l.drop i) x = (txB (rd_T25 l (i : Int)) x || inB (l.drop (i + 1)) x) := by
  rw [List.drop_eq_getElem_cons h, rd_at25 l i h]
  unfold inB
  rw [List.any_cons]
  congr 1
  rw [Bool.eq_iff_iff, decide_eq_true_iff, txB_eq]
theorem among_loop (l : List S25) (hl : l.length ≤ 4611686018427387904) (a b : Int) (d : Nat) : ∀ i, i + d = l.length → Ev (fun k => ferruleref12_Among.l0 k l (i : Int) a b) (inB (l.drop i) ⟨a, b⟩) := by
  induction d with
  | zero =>
    intro i hi
    refine Ev.step (f := fun _ => some (inB (l.drop i) ⟨a, b⟩)) (fun k => ?_) (Ev.now _)
    rw [ferruleref12_Among.l0, if_neg (by omega), List.drop_of_length_le (by omega)]
    rfl
  | succ d ih =>
    intro i hi
    have hw : wrap64 ((i : Int) + 1) = ((i + 1 : Nat) : Int) := by rw [wrap64_in (by omega) (by omega)]; omega
    cases hx : txB (rd_T25 l (i : Int)) ⟨a, b⟩ with
    | true =>
      refine Ev.step (f := fun _ => some (inB (l.drop i) ⟨a, b⟩)) (fun k => ?_) (Ev.now _)
      have hx' : ((rd_T25 l (i : Int)).f0 == a && ((rd_T25 l (i : Int)).f1 == b)) = true := hx
      rw [ferruleref12_Among.l0, if_pos (by omega), if_pos (by omega), if_pos hx', inB_at l i (by omega), hx]
      rfl
    | false =>
      have h := ih (i + 1) (by omega)
      rw [inB_at l i (by omega), hx, Bool.false_or]
      refine Ev.step (fun k => ?_) h
      have hx' : ((rd_T25 l (i : Int)).f0 == a && ((rd_T25 l (i : Int)).f1 == b)) = false := hx
      rw [ferruleref12_Among.l0, if_pos (by omega), if_pos (by omega), if_neg (by rw [hx']; decide), hw]
theorem among_f (l : List S25) (hl : l.length ≤ 4611686018427387904) (a b : Int) : Ev (fun k => ferruleref12_Among.f k l a b) (inB l ⟨a, b⟩) := among_loop l hl a b l.length 0 (by omega)
theorem same_loop (l : List S40) (hl : l.length < 3518437208883) (d : Nat) : ∀ i, i + d = l.length → Ev (fun k => ferruleref12_Same.l0 k l l (i : Int)) true := by
  induction d with
  | zero =>
    intro i hi
    refine Ev.step (f := fun _ => some true) (fun k => ?_) (Ev.now _)
    rw [ferruleref12_Same.l0, if_neg (by omega)]
  | succ d ih =>
    intro i hi
    have hw : wrap64 ((i : Int) + 1) = ((i + 1 : Nat) : Int) := by rw [wrap64_in (by omega) (by omega)]; omega
    refine Ev.step (fun k => ?_) (ih (i + 1) (by omega))
    rw [ferruleref12_Same.l0, if_pos (by omega), if_pos (by omega), if_pos (by omega), if_neg (by simp), hw]
theorem same_f (l : List S40) (hl : l.length < 3518437208883) : Ev (fun k => ferruleref12_Same.f k l l) true := by
  unfold ferruleref12_Same.f
  simp only [if_true]
  exact same_loop l hl l.length 0 (by omega)
theorem okT_of {x : S25} (h : q25 x) : okT x = true := by
  unfold okT
  rw [h.1, h.2]
  rfl
theorem scan_len {t : S25} {key : ByteArray} {write : Bool} {firm : List S25} : ∀ (l : List S40) (out r : List S25), scanB t key write firm l out = some r → r.length ≤ out.length + l.length
  | [], out, r, h => by
    obtain rfl := Option.some.inj h
    exact Nat.le_refl _
  | y :: l, out, r, h => by
    unfold scanB at h
    rw [List.length_cons]
    by_cases hw : wayB y t key write = true
    · rw [if_pos hw] at h
      by_cases hs : (inB firm y.f1 || !(elderB t y.f1)) = true
      · rw [if_pos hs] at h
        cases h
      · rw [if_neg hs] at h
        have := scan_len l _ r h
        by_cases ho : inB out y.f1 = true
        · rw [if_pos ho] at this
          omega
        · rw [if_neg ho, List.length_append, List.length_singleton] at this
          omega
    · rw [if_neg hw] at h
      have := scan_len l _ r h
      omega
structure AskOk (l : List S40) (t : S25) (key : ByteArray) (firm : List S25) (r : List S40 × List S25 × Int) : Prop where
  has : ∃ x ∈ r.1, x.f1 = t ∧ x.f0 = key
  out : ∀ x ∈ r.2.1, inB firm x = false ∧ elderB t x = true ∧ ∀ h ∈ r.1, h.f1 ≠ x
  rest : ∀ u, ¬ u ∈ r.2.1 → u ≠ t → ∀ x : S40, x.f1 = u → (x ∈ r.1 ↔ x ∈ l)
  len : r.1.length < 3518437208883
  wlen : r.2.1.length < 3518437208883
theorem ask_no (l : List S40) (t : S25) (key : ByteArray) (write : Bool) (firm : List S25) (h : (askI l t key write firm).2.2 ≠ 0) : (askI l t key write firm).1 = l ∧ (askI l t key write firm).2.1 = [] := by
  cases hh : hasI l t key write with
  | true =>
    unfold askI at h ⊢
    rw [if_pos hh] at h
    exact absurd rfl h
  | false =>
    rw [askI_eq _ _ _ _ _ hh] at h ⊢
    cases hs : scanB t key write firm l [] with
    | none => exact ⟨rfl, rfl⟩
    | some out =>
      rw [hs] at h
      have h : (askE l t key write out).2.2 ≠ 0 := h
      show (askE l t key write out).1 = l ∧ (askE l t key write out).2.1 = []
      unfold askE askM at h ⊢
      split at h
      · exact absurd rfl h
      · rename_i h1
        split at h
        · rename_i h2
          rw [if_neg h1, if_pos h2]
          exact ⟨rfl, rfl⟩
        · exact absurd rfl h
theorem ask_ok (l : List S40) (hl : l.length < 3518437208883) (t : S25) (key : ByteArray) (write : Bool) (firm : List S25) (h : (askI l t key write firm).2.2 = 0) : AskOk l t key firm (askI l t key write firm) := by
  cases hh : hasI l t key write with
  | true =>
    have e : askI l t key write firm = (l, [], 0) := by unfold askI; rw [if_pos hh]
    rw [e]
    unfold hasI at hh
    rw [Bool.and_eq_true, decide_eq_true_iff] at hh
    obtain ⟨hp, hm⟩ := idxN_some (p := p34 t key) (l := l) hh.1
    exact ⟨⟨_, hm, p34_iff.1 hp⟩, fun x hx => absurd hx (by simp), fun u _ _ x _ => Iff.rfl, hl, by show 0 < _; omega⟩
  | false =>
    rw [askI_eq _ _ _ _ _ hh] at h ⊢
    cases hs : scanB t key write firm l [] with
    | none =>
      rw [hs] at h
      have h : (11 : Int) = 0 := h
      omega
    | some out =>
      rw [hs] at h
      have h : (askE l t key write out).2.2 = 0 := h
      show AskOk l t key firm (askE l t key write out)
      obtain ⟨h1, h2, _⟩ := scanB_spec l [] out hs
      have hlen := scan_len l [] out hs
      rw [List.length_nil, Nat.zero_add] at hlen
      have hout : ∀ x ∈ out, inB firm x = false ∧ elderB t x = true ∧ x ≠ t := fun x hx => by
        rcases (h1 x).1 hx with hx | ⟨z, hz, hw, e⟩
        · exact absurd hx (by simp)
        · have := h2 z hz hw
          rw [e] at this
          exact ⟨this.1, this.2, fun e2 => (wayB_iff.1 hw).2.1 (e.trans e2)⟩
      have hin : ∀ x, x ∈ keepB (fun x => inB out x.f1) l ↔ x ∈ l ∧ ¬ x.f1 ∈ out := fun x => by
        rw [mem_keep]
        refine and_congr_right fun _ => ?_
        rw [← Bool.not_eq_true, inB_iff]
      have hml : (keepB (fun x => inB out x.f1) l).length ≤ l.length := keep_len _ _
      unfold askE at h ⊢
      generalize keepB (fun x => inB out x.f1) l = m at hin hml h ⊢
      unfold askM at h ⊢
      by_cases hj : 0 ≤ ofI t key m
      · rw [if_pos hj]
        have hjl := ofI_lt t key m
        obtain ⟨hp, hmem⟩ := idxN_some (p := p34 t key) (l := m) hj
        have hp : p34 t key (rd_T40 m (ofI t key m)) = true := hp
        have hmem : rd_T40 m (ofI t key m) ∈ m := hmem
        obtain ⟨j, hjq⟩ : ∃ j : Nat, ofI t key m = (j : Int) := ⟨(ofI t key m).toNat, by omega⟩
        rw [hjq] at hp hmem hjl ⊢
        have hjm : j < m.length := by omega
        rw [rd_at m j hjm] at hp hmem ⊢
        obtain ⟨e1, e2⟩ := p34_iff.1 hp
        simp only [Int.toNat_natCast]
        refine ⟨⟨⟨m[j].f0, m[j].f1, true⟩, List.mem_set hjm _, e1, e2⟩, fun x hx => ⟨(hout x hx).1, (hout x hx).2.1, fun y hy e => ?_⟩, fun u hu hut x hx => ?_, by show (m.set j _).length < _; rw [List.length_set]; omega, by show out.length < _; omega⟩
        · have hy : y ∈ m.set j ⟨m[j].f0, m[j].f1, true⟩ := hy
          rcases List.mem_or_eq_of_mem_set hy with hy | rfl
          · exact ((hin y).1 hy).2 (e ▸ hx)
          · exact (hout x hx).2.2 (e.symm.trans e1)
        · have hu : ¬ u ∈ out := hu
          show x ∈ m.set j ⟨m[j].f0, m[j].f1, true⟩ ↔ x ∈ l
          constructor
          · intro hy
            rcases List.mem_or_eq_of_mem_set hy with hy | rfl
            · exact ((hin x).1 hy).1
            · exact absurd (hx.symm.trans e1) hut
          · intro hy
            have hxm := (hin x).2 ⟨hy, fun e => hu (hx ▸ e)⟩
            obtain ⟨i, hi, hxi⟩ := List.getElem_of_mem hxm
            have hij : ¬ j = i := fun e => by
              subst e
              exact hut (hx.symm.trans ((congrArg S40.f1 hxi).symm.trans e1))
            refine List.mem_iff_getElem.2 ⟨i, by rw [List.length_set]; exact hi, ?_⟩
            rw [List.getElem_set, if_neg hij]
            exact hxi
      · rw [if_neg hj] at h ⊢
        by_cases h48 : 48 ≤ m.length
        · rw [if_pos h48] at h
          have h : (5 : Int) = 0 := h
          omega
        · rw [if_neg h48]
          refine ⟨⟨⟨key, t, write⟩, List.mem_append_right _ (List.mem_singleton.2 rfl), rfl, rfl⟩, fun x hx => ⟨(hout x hx).1, (hout x hx).2.1, fun y hy e => ?_⟩, fun u hu hut x hx => ?_, by show (m ++ _).length < _; rw [List.length_append, List.length_singleton]; omega, by show out.length < _; omega⟩
          · have hy : y ∈ m ++ [⟨key, t, write⟩] := hy
            rcases List.mem_append.1 hy with hy | hy
            · exact ((hin y).1 hy).2 (e ▸ hx)
            · rw [List.mem_singleton] at hy
              subst hy
              exact (hout x hx).2.2 e.symm
          · have hu : ¬ u ∈ out := hu
            show x ∈ m ++ [⟨key, t, write⟩] ↔ x ∈ l
            rw [List.mem_append, List.mem_singleton]
            constructor
            · rintro (hy | rfl)
              · exact ((hin x).1 hy).1
              · exact absurd hx.symm hut
            · exact fun hy => .inl ((hin x).2 ⟨hy, fun e => hu (hx ▸ e)⟩)
theorem p31_f1 {t : S25} {key : ByteArray} {wr : Bool} {x : S40} (h : p31 t key wr x = true) : x.f1 = t := by
  unfold p31 at h
  rw [Bool.and_eq_true] at h
  exact txB_eq.1 h.1
theorem has_same {l m : List S40} {u : S25} (key : ByteArray) (wr : Bool) (h : ∀ x : S40, x.f1 = u → (x ∈ m ↔ x ∈ l)) : hasB u key wr m = hasB u key wr l := by
  unfold hasB
  rw [idxN_any, idxN_any, Bool.eq_iff_iff, List.any_eq_true, List.any_eq_true]
  constructor
  · rintro ⟨x, hx, hp⟩
    exact ⟨x, (h x (p31_f1 hp)).1 hx, hp⟩
  · rintro ⟨x, hx, hp⟩
    exact ⟨x, (h x (p31_f1 hp)).2 hx, hp⟩
theorem has_yes {m : List S40} {t : S25} {key : ByteArray} (h : ∃ x ∈ m, x.f1 = t ∧ x.f0 = key) : hasB t key false m = true := by
  unfold hasB
  rw [idxN_any, List.any_eq_true]
  obtain ⟨x, hx, h1, h2⟩ := h
  refine ⟨x, hx, ?_⟩
  unfold p31
  rw [txB_eq.2 h1, stB_eq.2 h2]
  simp
theorem wounds_end (l m : List S40) (key8 : ByteArray) (out : List S25) (t : S25) (u0 u1 : Int) (h : ∀ u, ¬ u ∈ out → u ≠ t → ∀ x : S40, x.f1 = u → (x ∈ m ↔ x ∈ l)) (ho : out.length ≤ 4611686018427387904) :
    Ev (fun k => (ferruleref12_Among.f k out u0 u1).bind fun t149 => (if t149 = true then (ferrulelaw12_LockWounds.j1 k l key8 true m true u0 u1) else (ferrulelaw12_LockWounds.j1 k l key8 true m (u0 == t.f0 && (u1 == t.f1)) u0 u1))) true := by
  have hj : ∀ b : Bool, (b = false → ¬ (⟨u0, u1⟩ : S25) ∈ out ∧ (⟨u0, u1⟩ : S25) ≠ t) → Ev (fun k => ferrulelaw12_LockWounds.j1 k l key8 true m b u0 u1) true := fun b hb => by
    refine Ev.step (f := fun _ => some true) (fun k => ?_) (Ev.now _)
    rw [ferrulelaw12_LockWounds.j1]
    cases b with
    | true => rfl
    | false =>
      obtain ⟨h1, h2⟩ := hb rfl
      have e1 : lock_Has.f m u0 u1 key8 false = lock_Has.f l u0 u1 key8 false := congrArg some (has_same key8 false (h _ h1 h2))
      have e2 : lock_Has.f m u0 u1 key8 true = lock_Has.f l u0 u1 key8 true := congrArg some (has_same key8 true (h _ h1 h2))
      rw [e1, e2]
      unfold lock_Has.f
      simp
  refine Ev.bind (among_f out ho u0 u1) ?_
  cases hin : inB out ⟨u0, u1⟩ with
  | true =>
    simp only [if_true]
    exact hj true (fun e => by cases e)
  | false =>
    simp only [Bool.false_eq_true, if_false]
    refine hj _ (fun e => ⟨fun hm => ?_, fun ht => ?_⟩)
    · rw [inB_iff.2 hm] at hin
      cases hin
    · subst ht
      simp at e
theorem wounds_loop (l m : List S40) (hm : m.length < 3518437208883) (firm : List S25) (hf : firm.length ≤ 4611686018427387904) (key8 : ByteArray) (out : List S25) (ho : out.length ≤ 4611686018427387904) (t : S25) (a2 : ByteArray) (a3 : Bool) (u0 u1 : Int)
    (h : ∀ u, ¬ u ∈ out → u ≠ t → ∀ x : S40, x.f1 = u → (x ∈ m ↔ x ∈ l)) (hw : ∀ x ∈ out, inB firm x = false ∧ elderB t x = true ∧ ∀ h ∈ m, h.f1 ≠ x) (d : Nat) :
    ∀ i : Nat, i + d = out.length → Ev (fun k => ferrulelaw12_LockWounds.l0 k l firm key8 true m out (i : Int) t.f0 t.f1 a2 a3 u0 u1) true := by
  induction d with
  | zero =>
    intro i hi
    refine Ev.step (fun k => ?_) (wounds_end l m key8 out t u0 u1 h ho)
    rw [ferrulelaw12_LockWounds.l0, if_neg (by omega)]
  | succ d ih =>
    intro i hi
    have hwr : wrap64 ((i : Int) + 1) = ((i + 1 : Nat) : Int) := by rw [wrap64_in (by omega) (by omega)]; omega
    have hil : i < out.length := by omega
    obtain ⟨x, hx⟩ : ∃ x, rd_T25 out (i : Int) = x := ⟨_, rfl⟩
    have hxm : x ∈ out := by rw [← hx, rd_at25 out i hil]; exact List.getElem_mem _
    obtain ⟨h1, h2, h3⟩ := hw x hxm
    have hd : lock_Drop.f m x.f0 x.f1 = some m := by
      unfold lock_Drop.f
      rw [if_pos hm, keep_all (fun y hy => ?_)]
      unfold p29
      rw [← Bool.not_eq_true, txB_eq]
      exact h3 y hy
    have he : lock_Elder.f t.f0 t.f1 x.f0 x.f1 = some true := congrArg some h2
    refine Ev.step (f := fun k => (ferruleref12_Among.f k firm x.f0 x.f1).bind fun t142 => if t142 = true then some false else ferrulelaw12_LockWounds.l0 k l firm key8 true m out ((i + 1 : Nat) : Int) t.f0 t.f1 a2 a3 u0 u1) (fun k => ?_) ?_
    · rw [ferrulelaw12_LockWounds.l0, if_pos (by omega), if_pos (by omega), hx, he, hd, hwr]
      simp only [Option.bind_some, if_true]
    · refine Ev.bind (among_f firm hf x.f0 x.f1) ?_
      have h1 : inB firm ⟨x.f0, x.f1⟩ = false := h1
      rw [h1]
      simp only [Bool.false_eq_true, if_false]
      exact ih (i + 1) (by omega)
theorem LockWounds : ferrulelaw12_LockWounds.Pure := by
  intro l a b key write firm c d key8 hq
  obtain ⟨hl, _, hf, _, _⟩ := hq
  have hl0 : l.length ≤ maxLen ∧ l.length * 40 ≤ 140737488351232 ∧ ∀ y, y ∈ l → q40 y := hl
  have hf0 : firm.length ≤ maxLen ∧ firm.length * 16 ≤ 140737488351232 ∧ ∀ y, y ∈ firm → q25 y := hf
  have hll : l.length < 3518437208883 := by omega
  have hff : firm.length ≤ 4611686018427387904 := by omega
  refine Ev.rounds ?_
  unfold ferrulelaw12_LockWounds.f
  rw [shown_true, ask_f l a b key write firm hll (fun x hx => okT_of (hl0.2.2 x hx).2.1) (fun x hx => okT_of (hf0.2.2 x hx))]
  simp only [Option.bind_some]
  have hno := ask_no l ⟨a, b⟩ key write firm
  have hok := ask_ok l hll ⟨a, b⟩ key write firm
  generalize askI l ⟨a, b⟩ key write firm = r at hno hok ⊢
  by_cases h : r.2.2 = 0
  · simp only [h, if_true]
    have hA := hok h
    have e1 : lock_Has.f r.1 a b key false = some true := congrArg some (has_yes hA.has)
    simp only [e1, Option.bind_some, if_true]
    have := hA.wlen
    exact wounds_loop l r.1 hA.len firm hff key8 r.2.1 (by omega) ⟨a, b⟩ key write c d hA.rest hA.out r.2.1.length 0 (by omega)
  · obtain ⟨e1, e2⟩ := hno h
    simp only [h, if_false, e1, e2]
    refine Ev.bind (same_f l hll) ?_
    simp only [if_true]
    exact Ev.now true
end Go.Proofs.Ytgmflfbhifdacaa.Pure
