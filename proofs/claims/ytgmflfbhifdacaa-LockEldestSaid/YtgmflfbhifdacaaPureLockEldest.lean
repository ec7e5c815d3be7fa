/- The pure statement of the law LockEldest, proved. Conditions: none. -/
import Derived.Test.YtgmflfbhifdacaaDefLockEldest
import Derived.Test.YtgmflfbhifdacaaLockL
namespace Go.Proofs.Ytgmflfbhifdacaa.Pure
open Go.RowKit Go.Proofs.Ytgmflfbhifdacaa.Pr Go.Proofs.YtgmflfbhifdacaaW.PrintWords Go.Proofs.YtgmflfbhifdacaaW.PrintLast Go.Proofs.YtgmflfbhifdacaaW.PrintMore
theorem inB_at (l : List S25) (i : Nat) (h : i < l.length) (x : S25) : inB (l.drop i) x = (txB (rd_T25 l (i : Int)) x || inB (l.drop (i + 1)) x) := by
  rw [List.drop_eq_getElem_cons h, rd_at25 l i h]
  unfold inB
  rw [List.any_cons]
  congr 1
  rw [Bool.eq_iff_iff, decide_eq_true_iff, txB_eq]
theorem among_loop (l : List S25) (hl : l.length ≤ 4611686018427387904) (a b : Int) (d : Nat) : ∀ i, i + d = l.length → Ev (fun k => ferruleref12_Among.l0 k l (i : Int) a b) (inB (l.drop i) ⟨a, b⟩) := by
  induction d with
  | zero =>
    intro i hi
    refine Ev.step (f := fun _ => some (inB (l.drop i) ⟨a, b⟩)) (fun k => ?_) (Ev.now _)
    rw [ferruleref12_Among.l0, if_neg (by omega), List.drop_of_length_le (by omega)]
    rfl
  | succ d ih =>
    intro i hi
    have hw : wrap64 ((i : Int) + 1) = ((i + 1 : Nat) : Int) := by rw [wrap64_in (by omega) (by omega)]; omega
    cases hx : txB (rd_T25 l (i : Int)) ⟨a, b⟩ with
    | true =>
      refine Ev.step (f := fun _ => some (inB (l.drop i) ⟨a, b⟩)) (fun k => ?_) (Ev.now _)
      have hx' : ((rd_T25 l (i : Int)).f0 == a && ((rd_T25 l (i : Int)).f1 == b)) = true := hx
      rw [ferruleref12_Among.l0, if_pos (by omega), if_pos (by omega), if_pos hx', inB_at l i (by omega), hx]
      rfl
    | false =>
      have h := ih (i + 1) (by omega)
      rw [inB_at l i (by omega), hx, Bool.false_or]
      refine Ev.step (fun k => ?_) h
      have hx' : ((rd_T25 l (i : Int)).f0 == a && ((rd_T25 l (i : Int)).f1 == b)) = false := hx
      rw [ferruleref12_Among.l0, if_pos (by omega), if_pos (by omega), if_neg (by rw [hx']; decide), hw]
theorem among_f (l : List S25) (hl : l.length ≤ 4611686018427387904) (a b : Int) : Ev (fun k => ferruleref12_Among.f k l a b) (inB l ⟨a, b⟩) := among_loop l hl a b l.length 0 (by omega)
theorem ask_eldest {l : List S40} {t : S25} {key : ByteArray} {write : Bool} {firm : List S25} (h : ∀ x ∈ l, x.f1 = t ∨ (elderB t x.f1 = true ∧ inB firm x.f1 = false)) : (askI l t key write firm).2.2 = 0 ∨ (askI l t key write firm).2.2 = 5 := by
  cases hh : hasI l t key write with
  | true =>
    left
    unfold askI
    rw [if_pos hh]
  | false =>
    rw [askI_eq _ _ _ _ _ hh]
    obtain ⟨r, hr⟩ := scanB_none (t := t) (key := key) (write := write) (firm := firm) l [] (fun x hx hw => by
      rcases h x hx with e | ⟨h1, h2⟩
      · exact absurd e (wayB_iff.1 hw).2.1
      · exact ⟨h2, h1⟩)
    rw [hr]
    show (askE l t key write r).2.2 = 0 ∨ (askE l t key write r).2.2 = 5
    unfold askE askM
    split
    · left; rfl
    · split
      · right; rfl
      · left; rfl
theorem eldest_loop (l : List S40) (hl : l.length < 3518437208883) (h1 : ∀ x ∈ l, okT x.f1 = true) (firm : List S25) (h2 : ∀ x ∈ firm, okT x = true) (hf : firm.length ≤ 4611686018427387904) (a b : Int) (key : ByteArray) (write : Bool) (d : Nat) :
    ∀ i, i + d = l.length → (∀ x ∈ l.take i, x.f1 = ⟨a, b⟩ ∨ (elderB ⟨a, b⟩ x.f1 = true ∧ inB firm x.f1 = false)) → Ev (fun k => ferrulelaw12_LockEldest.l0 k l firm true (i : Int) a b key write) true := by
  induction d with
  | zero =>
    intro i hi hg
    have hie : i = l.length := by omega
    rw [hie, List.take_length] at hg
    refine Ev.step (f := fun _ => some true) (fun k => ?_) (Ev.now _)
    rw [ferrulelaw12_LockEldest.l0, if_neg (by omega), ask_f l a b key write firm hl h1 h2]
    simp only [Option.bind_some]
    rw [if_pos trivial]
    rcases ask_eldest (key := key) (write := write) hg with e | e
    · rw [if_pos e]
    · rw [e]
      rfl
  | succ d ih =>
    intro i hi hg
    have hw : wrap64 ((i : Int) + 1) = ((i + 1 : Nat) : Int) := by rw [wrap64_in (by omega) (by omega)]; omega
    obtain ⟨x, hx⟩ : ∃ x, rd_T40 l (i : Int) = x := ⟨_, rfl⟩
    have hst : ∀ k, ferrulelaw12_LockEldest.l0 (k + 1) l firm true (i : Int) a b key write = (ferruleref12_Among.f k firm x.f1.f0 x.f1.f1).bind fun t138 => (if (!(x.f1.f0 == a) || (!(x.f1.f1 == b))) = true then (if elderB ⟨a, b⟩ x.f1 = true then (if t138 = true then (some true) else (ferrulelaw12_LockEldest.l0 k l firm true (wrap64 ((i : Int) + 1)) a b key write)) else (some true)) else (ferrulelaw12_LockEldest.l0 k l firm true (wrap64 ((i : Int) + 1)) a b key write)) := fun k => by
      rw [ferrulelaw12_LockEldest.l0, if_pos (by omega), if_pos (by omega), hx]
      rfl
    have htake : ∀ y ∈ l.take (i + 1), y ∈ l.take i ∨ y = x := fun y hy => by
      rw [List.take_succ_eq_append_getElem (by omega), List.mem_append, List.mem_singleton] at hy
      rw [← hx, rd_at l i (by omega)]
      exact hy
    have nxt : (x.f1 = ⟨a, b⟩ ∨ (elderB ⟨a, b⟩ x.f1 = true ∧ inB firm x.f1 = false)) → Ev (fun k => ferrulelaw12_LockEldest.l0 k l firm true (wrap64 ((i : Int) + 1)) a b key write) true := fun hgx => by
      rw [hw]
      exact ih (i + 1) (by omega) (fun y hy => by
        rcases htake y hy with hy | rfl
        · exact hg y hy
        · exact hgx)
    refine Ev.step hst (Ev.bind (among_f firm hf _ _) ?_)
    have hne : (!(x.f1.f0 == a) || (!(x.f1.f1 == b))) = !(txB x.f1 ⟨a, b⟩) := by unfold txB; rw [Bool.not_and]
    rw [hne]
    cases ht : txB x.f1 ⟨a, b⟩ with
    | true =>
      simp only [Bool.not_true, Bool.false_eq_true, if_false]
      exact nxt (.inl (txB_eq.1 ht))
    | false =>
      simp only [Bool.not_false, if_true]
      cases he : elderB ⟨a, b⟩ x.f1 with
      | false =>
        simp only [Bool.false_eq_true, if_false]
        exact Ev.now _
      | true =>
        simp only [if_true]
        cases hi2 : inB firm x.f1 with
        | true =>
          simp only [if_true]
          exact Ev.now _
        | false =>
          simp only [Bool.false_eq_true, if_false]
          exact nxt (.inr ⟨he, hi2⟩)
theorem okT_of {x : S25} (h : q25 x) : okT x = true := by
  unfold okT
  rw [h.1, h.2]
  rfl
theorem LockEldest : ferrulelaw12_LockEldest.Pure := by
  intro l a b key write firm hl hq hf
  refine Ev.rounds ?_
  unfold ferrulelaw12_LockEldest.f
  rw [shown_true]
  simp only [Option.bind_some]
  exact eldest_loop l (by omega) (fun x hx => okT_of (hl.2.2 x hx).2.1) firm (fun x hx => okT_of (hf.2.2 x hx)) (by omega) a b key write l.length 0 (by omega) (fun x hx => by cases hx)
end Go.Proofs.Ytgmflfbhifdacaa.Pure
