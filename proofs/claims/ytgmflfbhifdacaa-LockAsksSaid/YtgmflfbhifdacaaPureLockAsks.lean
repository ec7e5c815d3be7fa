/- Whatever locks there are, whoever asks for whatever, it is given, or not, as the document says: proved of the printed function. Conditions: none. -/
import Derived.Test.YtgmflfbhifdacaaDefLockAsks
import Derived.Test.YtgmflfbhifdacaaLockL
namespace Go.Proofs.Ytgmflfbhifdacaa.Pure
open Go.RowKit Go.Proofs.Ytgmflfbhifdacaa.Pr Go.Proofs.YtgmflfbhifdacaaW.PrintWords Go.Proofs.YtgmflfbhifdacaaW.PrintLast Go.Proofs.YtgmflfbhifdacaaW.PrintMore
set_option linter.unusedVariables false
set_option linter.unusedSimpArgs false
theorem inB_at (l : List S25) (i : Nat) (h : i < l.length) (x : S25) : inB (l.drop i) x = (txB (rd_T25 l (i : Int)) x || inB (l.drop (i + 1)) x) := by
  rw [List.drop_eq_getElem_cons h, rd_at25 l i h]
  unfold inB
  rw [List.any_cons]
  congr 1
  rw [Bool.eq_iff_iff, decide_eq_true_iff, txB_eq]
theorem among_loop (l : List S25) (hl : l.length ≤ 4611686018427387904) (a b : Int) (d : Nat) : ∀ i, i + d = l.length → Ev (fun k => ferruleref12_Among.l0 k l (i : Int) a b) (inB (l.drop i) ⟨a, b⟩) := by
  induction d with
  | zero =>
    intro i hi
    refine Ev.step (f := fun _ => some (inB (l.drop i) ⟨a, b⟩)) (fun k => ?_) (Ev.now _)
    rw [ferruleref12_Among.l0, if_neg (by omega), List.drop_of_length_le (by omega)]
    rfl
  | succ d ih =>
    intro i hi
    have hw : wrap64 ((i : Int) + 1) = ((i + 1 : Nat) : Int) := by rw [wrap64_in (by omega) (by omega)]; omega
    cases hx : txB (rd_T25 l (i : Int)) ⟨a, b⟩ with
    | true =>
      refine Ev.step (f := fun _ => some (inB (l.drop i) ⟨a, b⟩)) (fun k => ?_) (Ev.now _)
      have hx' : ((rd_T25 l (i : Int)).f0 == a && ((rd_T25 l (i : Int)).f1 == b)) = true := hx
      rw [ferruleref12_Among.l0, if_pos (by omega), if_pos (by omega), if_pos hx', inB_at l i (by omega), hx]
      rfl
    | false =>
      have h := ih (i + 1) (by omega)
      rw [inB_at l i (by omega), hx, Bool.false_or]
      refine Ev.step (fun k => ?_) h
      have hx' : ((rd_T25 l (i : Int)).f0 == a && ((rd_T25 l (i : Int)).f1 == b)) = false := hx
      rw [ferruleref12_Among.l0, if_pos (by omega), if_pos (by omega), if_neg (by rw [hx']; decide), hw]
theorem among_f (l : List S25) (hl : l.length ≤ 4611686018427387904) (a b : Int) : Ev (fun k => ferruleref12_Among.f k l a b) (inB l ⟨a, b⟩) := among_loop l hl a b l.length 0 (by omega)
theorem same_loop (l : List S40) (hl : l.length < 3518437208883) (d : Nat) : ∀ i, i + d = l.length → Ev (fun k => ferruleref12_Same.l0 k l l (i : Int)) true := by
  induction d with
  | zero =>
    intro i hi
    refine Ev.step (f := fun _ => some true) (fun k => ?_) (Ev.now _)
    rw [ferruleref12_Same.l0, if_neg (by omega)]
  | succ d ih =>
    intro i hi
    have hw : wrap64 ((i : Int) + 1) = ((i + 1 : Nat) : Int) := by rw [wrap64_in (by omega) (by omega)]; omega
    refine Ev.step (fun k => ?_) (ih (i + 1) (by omega))
    rw [ferruleref12_Same.l0, if_pos (by omega), if_pos (by omega), if_pos (by omega), if_neg (by simp), hw]
theorem same_f (l : List S40) (hl : l.length < 3518437208883) : Ev (fun k => ferruleref12_Same.f k l l) true := by
  unfold ferruleref12_Same.f
  simp only [if_true]
  exact same_loop l hl l.length 0 (by omega)
theorem okT_of {x : S25} (h : q25 x) : okT x = true := by
  unfold okT
  rw [h.1, h.2]
  rfl
theorem scan_len {t : S25} {key : ByteArray} {write : Bool} {firm : List S25} : ∀ (l : List S40) (out r : List S25), scanB t key write firm l out = some r → r.length ≤ out.length + l.length
  | [], out, r, h => by
    obtain rfl := Option.some.inj h
    exact Nat.le_refl _
  | y :: l, out, r, h => by
    unfold scanB at h
    rw [List.length_cons]
    by_cases hw : wayB y t key write = true
    · rw [if_pos hw] at h
      by_cases hs : (inB firm y.f1 || !(elderB t y.f1)) = true
      · rw [if_pos hs] at h
        cases h
      · rw [if_neg hs] at h
        have := scan_len l _ r h
        by_cases ho : inB out y.f1 = true
        · rw [if_pos ho] at this
          omega
        · rw [if_neg ho, List.length_append, List.length_singleton] at this
          omega
    · rw [if_neg hw] at h
      have := scan_len l _ r h
      omega
structure AskOk (l : List S40) (t : S25) (key : ByteArray) (firm : List S25) (r : List S40 × List S25 × Int) : Prop where
  has : ∃ x ∈ r.1, x.f1 = t ∧ x.f0 = key
  out : ∀ x ∈ r.2.1, inB firm x = false ∧ elderB t x = true ∧ ∀ h ∈ r.1, h.f1 ≠ x
  rest : ∀ u, ¬ u ∈ r.2.1 → u ≠ t → ∀ x : S40, x.f1 = u → (x ∈ r.1 ↔ x ∈ l)
  len : r.1.length < 3518437208883
  wlen : r.2.1.length < 3518437208883
theorem sametx_loop (l : List S25) (hl : l.length ≤ 4611686018427387904) (d : Nat) : ∀ i, i + d = l.length → Ev (fun k => ferruleref12_SameTx.l0 k l l (i : Int)) true := by
  induction d with
  | zero =>
    intro i hi
    refine Ev.step (f := fun _ => some true) (fun k => ?_) (Ev.now _)
    rw [ferruleref12_SameTx.l0, if_neg (by omega)]
  | succ d ih =>
    intro i hi
    have hw : wrap64 ((i : Int) + 1) = ((i + 1 : Nat) : Int) := by rw [wrap64_in (by omega) (by omega)]; omega
    refine Ev.step (fun k => ?_) (ih (i + 1) (by omega))
    rw [ferruleref12_SameTx.l0, if_pos (by omega), if_pos (by omega), if_pos (by omega), if_neg (by simp), hw]
theorem sametx_f (l : List S25) (hl : l.length ≤ 4611686018427387904) : Ev (fun k => ferruleref12_SameTx.f k l l) true := by
  unfold ferruleref12_SameTx.f
  simp only [if_true]
  exact sametx_loop l hl l.length 0 (by omega)
theorem inway_f (x : S40) (a b : Int) (key : ByteArray) (wr : Bool) : ferruleref12_inWay.f x.f0 x.f1.f0 x.f1.f1 x.f2 a b key wr = some (wayB x ⟨a, b⟩ key wr) := by
  unfold ferruleref12_inWay.f wayB txB stB
  by_cases h : x.f0.toList = key.toList
  · rw [if_pos h]
    have h' : (x.f0.toList == key.toList) = true := beq_iff_eq.2 h
    rw [h']
    cases h1 : (x.f1.f0 == a) <;> cases h2 : (x.f1.f1 == b) <;> cases h3 : x.f2 <;> simp
  · rw [if_neg h]
    have h' : (x.f0.toList == key.toList) = false := beq_eq_false_iff_ne.2 h
    rw [h']
    rfl
theorem elder_f (a b c d : Int) : ferruleref12_Elder.f a b c d = some (elderB ⟨a, b⟩ ⟨c, d⟩) := by
  unfold ferruleref12_Elder.f elderB
  by_cases h : a = c
  · subst h; simp
  · rw [if_neg h]
    simp [h]
section
variable (l : List S40) (hl : l.length < 3518437208883) (a b : Int) (key : ByteArray) (wr : Bool) (firm : List S25) (hf : firm.length ≤ 4611686018427387904)
abbrev Res := List S40 × List S25 × Int
include hl in
theorem find_loop (R : Res) (d : Nat) : ∀ i : Nat, i + d = l.length → (∀ H : Int, H = idxN (p34 ⟨a, b⟩ key) (l.drop i) i → Ev (fun k => ferruleref12_Ask.j2 k l key wr firm H (decide (0 ≤ H) && ((rd_T40 l H).f2 || !wr)) a b) R) →
    Ev (fun k => ferruleref12_Ask.l0 k l key wr firm (-1) (i : Int) a b) R := by
  induction d with
  | zero =>
    intro i hi h
    have h1 := h (-1) (by rw [List.drop_of_length_le (by omega)]; rfl)
    refine Ev.step (f := fun k => ferruleref12_Ask.j1 k l key wr firm (-1) (i : Int) false a b) (fun k => by rw [ferruleref12_Ask.l0, if_neg (by omega)]) ?_
    exact Ev.step (fun k => by rw [ferruleref12_Ask.j1, if_neg (by simp), if_neg (by decide)]; rfl) h1
  | succ d ih =>
    intro i hi h
    have hw : wrap64 ((i : Int) + 1) = ((i + 1 : Nat) : Int) := by rw [wrap64_in (by omega) (by omega)]; omega
    refine Ev.step (f := fun k => ferruleref12_Ask.j1 k l key wr firm (-1) (i : Int) true a b) (fun k => by rw [ferruleref12_Ask.l0, if_pos (by omega)]; rfl) ?_
    have hat := idxN_at (p34 ⟨a, b⟩ key) l i (by omega)
    cases hp : p34 ⟨a, b⟩ key (rd_T40 l (i : Int)) with
    | true =>
      rw [hp, if_pos rfl] at hat
      have h1 := h (i : Int) hat.symm
      unfold p34 txB stB at hp
      rw [Bool.and_eq_true] at hp
      have hp2 : (rd_T40 l (i : Int)).f0.toList = key.toList := beq_iff_eq.1 hp.2
      refine Ev.step (f := fun k => ferruleref12_Ask.l0 k l key wr firm (i : Int) ((i + 1 : Nat) : Int) a b) (fun k => by rw [ferruleref12_Ask.j1, if_pos rfl, if_pos (by omega), if_pos (by omega), if_pos hp.1, if_pos hp2, hw]) ?_
      refine Ev.step (f := fun k => ferruleref12_Ask.j1 k l key wr firm (i : Int) ((i + 1 : Nat) : Int) false a b) (fun k => ?_) ?_
      · rw [ferruleref12_Ask.l0]
        by_cases hc : ((i + 1 : Nat) : Int) < (l.length : Int)
        · rw [if_pos hc, decide_eq_false (by omega)]
        · rw [if_neg hc]
      · refine Ev.step (fun k => ?_) h1
        rw [ferruleref12_Ask.j1, if_neg (by simp), if_pos (by omega), if_pos (by omega), if_pos (by omega), decide_eq_true (show (0 : Int) ≤ (i : Int) by omega), Bool.true_and]
        cases (rd_T40 l (i : Int)).f2 with
        | true => rw [if_pos rfl, Bool.true_or]
        | false => rw [if_neg (by simp), Bool.false_or]
    | false =>
      rw [hp, if_neg (by simp)] at hat
      refine Ev.step (f := fun k => ferruleref12_Ask.l0 k l key wr firm (-1) ((i + 1 : Nat) : Int) a b) (fun k => ?_) (ih (i + 1) (by omega) (fun H hH => h H (by rw [hat]; exact hH)))
      unfold p34 txB stB at hp
      rw [ferruleref12_Ask.j1, if_pos rfl, if_pos (by omega), if_pos (by omega)]
      by_cases h1 : ((rd_T40 l (i : Int)).f1.f0 == a && ((rd_T40 l (i : Int)).f1.f1 == b)) = true
      · rw [if_pos h1, if_neg (fun h2 => by rw [h1, beq_iff_eq.2 h2] at hp; exact absurd hp (by decide)), hw]
      · rw [if_neg h1, hw]
include hl hf in
theorem scan_loop (H : Int) (R : Res) (d : Nat) : ∀ (i : Nat) (out : List S25), i + d = l.length → out.length ≤ i → (scanB ⟨a, b⟩ key wr firm (l.drop i) out = none → R = (l, [], 11)) →
    (∀ o, scanB ⟨a, b⟩ key wr firm (l.drop i) out = some o → Ev (fun k => ferruleref12_Ask.l2 k l key wr H o [] false 0 a b) R) → Ev (fun k => ferruleref12_Ask.l1 k l key wr firm H out (i : Int) a b) R := by
  induction d with
  | zero =>
    intro i out hi ho hn hs
    refine Ev.step (fun k => by rw [ferruleref12_Ask.l1, if_neg (by omega)]) (hs out (by rw [List.drop_of_length_le (by omega)]; rfl))
  | succ d ih =>
    intro i out hi ho hn hs
    have hw : wrap64 ((i : Int) + 1) = ((i + 1 : Nat) : Int) := by rw [wrap64_in (by omega) (by omega)]; omega
    have hat := scanB_at ⟨a, b⟩ key wr firm l i (by omega) out
    rw [hat] at hn
    simp only [hat] at hs
    cases hway : wayB (rd_T40 l (i : Int)) ⟨a, b⟩ key wr with
    | false =>
      simp only [hway, if_neg (show ¬ (false = true) by simp)] at hn hs
      exact Ev.step (f := fun k => ferruleref12_Ask.l1 k l key wr firm H out ((i + 1 : Nat) : Int) a b) (fun k => by rw [ferruleref12_Ask.l1, if_pos (by omega), if_pos (by omega), inway_f, hway, Option.bind_some, if_neg (by simp), hw]) (ih (i + 1) out (by omega) (by omega) hn hs)
    | true =>
      simp only [hway, if_true] at hn hs
      refine Ev.step (f := fun k => (ferruleref12_Among.f k firm (rd_T40 l (i : Int)).f1.f0 (rd_T40 l (i : Int)).f1.f1).bind fun t137 => if t137 = true then ferruleref12_Ask.j4 k l key wr firm H out (i : Int) true a b else ferruleref12_Ask.j4 k l key wr firm H out (i : Int) (!elderB ⟨a, b⟩ (rd_T40 l (i : Int)).f1) a b) (fun k => ?_) ?_
      · rw [ferruleref12_Ask.l1, if_pos (by omega), if_pos (by omega), inway_f, hway, Option.bind_some, if_pos rfl, elder_f]
        rfl
      refine Ev.bind (among_f firm hf _ _) ?_
      have hj : ∀ B, B = (inB firm (rd_T40 l (i : Int)).f1 || !elderB ⟨a, b⟩ (rd_T40 l (i : Int)).f1) → Ev (fun k => ferruleref12_Ask.j4 k l key wr firm H out (i : Int) B a b) R := by
        intro B hB
        rw [← hB] at hn
        simp only [← hB] at hs
        cases B with
        | true =>
          rw [hn rfl]
          exact Ev.step (f := fun _ => some (l, [], 11)) (fun k => by rw [ferruleref12_Ask.j4, if_pos rfl]) (Ev.now _)
        | false =>
          simp only [if_neg (show ¬ (false = true) by simp)] at hn hs
          refine Ev.step (f := fun k => (ferruleref12_Among.f k out (rd_T40 l (i : Int)).f1.f0 (rd_T40 l (i : Int)).f1.f1).bind fun t141 => if t141 = true then ferruleref12_Ask.l1 k l key wr firm H out ((i + 1 : Nat) : Int) a b else if out.length < 8796093022208 then ferruleref12_Ask.l1 k l key wr firm H (out ++ [⟨(rd_T40 l (i : Int)).f1.f0, (rd_T40 l (i : Int)).f1.f1⟩]) ((i + 1 : Nat) : Int) a b else none) (fun k => by rw [ferruleref12_Ask.j4, if_neg (by simp), if_pos (by omega), if_pos (by omega), hw]) ?_
          refine Ev.bind (among_f out (by omega) _ _) ?_
          have e1 : (⟨(rd_T40 l (i : Int)).f1.f0, (rd_T40 l (i : Int)).f1.f1⟩ : S25) = (rd_T40 l (i : Int)).f1 := rfl
          rw [e1]
          cases hin : inB out (rd_T40 l (i : Int)).f1 with
          | true =>
            simp only [hin, if_true] at hn hs ⊢
            exact ih (i + 1) out (by omega) (by omega) hn hs
          | false =>
            simp only [hin, if_neg (show ¬ (false = true) by simp)] at hn hs ⊢
            simp only [if_pos (show out.length < 8796093022208 by omega)]
            exact ih (i + 1) _ (by omega) (by rw [List.length_append, List.length_singleton]; omega) hn hs
      cases hfm : inB firm (rd_T40 l (i : Int)).f1 with
      | true =>
        simp only [if_true]
        exact hj true (by rw [hfm]; rfl)
      | false =>
        simp only [if_neg (show ¬ (false = true) by simp)]
        exact hj _ (by rw [hfm]; rfl)
end
/-- What is left, with the lock at H a Write one. -/
def mk (p : S40 → Bool) (H : Int) : List S40 → Nat → List S40
  | [], _ => []
  | x :: r, i => if p x = true then mk p H r (i + 1) else (if (i : Int) = H then ⟨x.f0, x.f1, true⟩ else x) :: mk p H r (i + 1)
theorem mk_at (p : S40 → Bool) (H : Int) (l : List S40) (i : Nat) (h : i < l.length) : mk p H (l.drop i) i = if p (rd_T40 l (i : Int)) = true then mk p H (l.drop (i + 1)) (i + 1) else (if (i : Int) = H then ⟨(rd_T40 l (i : Int)).f0, (rd_T40 l (i : Int)).f1, true⟩ else rd_T40 l (i : Int)) :: mk p H (l.drop (i + 1)) (i + 1) := by
  rw [List.drop_eq_getElem_cons h, rd_at l i h]
  rfl
theorem mk_low (p : S40 → Bool) (H : Int) : ∀ (l : List S40) (i : Nat), H < (i : Int) → mk p H l i = keepB p l
  | [], _, _ => rfl
  | x :: r, i, h => by
    unfold mk
    rw [mk_low p H r (i + 1) (by omega)]
    unfold keepB
    rw [List.filter_cons]
    cases p x with
    | true => simp
    | false => simp; omega
theorem keepB_append (p : S40 → Bool) (l m : List S40) : keepB p (l ++ m) = keepB p l ++ keepB p m := List.filter_append ..
theorem mk_split (p : S40 → Bool) : ∀ (l1 : List S40) (x : S40) (l2 : List S40) (i : Nat), p x = false → mk p ((i + l1.length : Nat) : Int) (l1 ++ x :: l2) i = keepB p l1 ++ ⟨x.f0, x.f1, true⟩ :: keepB p l2
  | [], x, l2, i, hx => by
    simp only [List.nil_append, List.length_nil, Nat.add_zero]
    unfold mk
    rw [if_neg (by rw [hx]; simp), if_pos rfl, mk_low p _ l2 (i + 1) (by omega)]
    rfl
  | y :: l1, x, l2, i, hx => by
    have ih := mk_split p l1 x l2 (i + 1) hx
    simp only [List.cons_append, List.length_cons]
    unfold mk
    rw [show i + (l1.length + 1) = i + 1 + l1.length by omega, ih]
    unfold keepB
    rw [List.filter_cons]
    cases p y with
    | true => simp
    | false =>
      simp
      omega
theorem idxN_split {p : S40 → Bool} : ∀ (l1 : List S40) (x : S40) (l2 : List S40) (i : Nat), (∀ y ∈ l1, p y = false) → p x = true → idxN p (l1 ++ x :: l2) i = ((i + l1.length : Nat) : Int)
  | [], x, l2, i, _, hx => by simp [idxN, hx]
  | y :: l1, x, l2, i, h, hx => by
    simp only [List.cons_append, idxN]
    rw [if_neg (by rw [h y (List.mem_cons_self ..)]; simp), idxN_split l1 x l2 (i + 1) (fun z hz => h z (List.mem_cons_of_mem _ hz)) hx, List.length_cons]
    congr 1
    omega
theorem keep_len (p : S40 → Bool) (l : List S40) : (keepB p l).length ≤ l.length := List.length_filter_le ..
theorem mk_len (p : S40 → Bool) (H : Int) : ∀ (l : List S40) (i : Nat), (mk p H l i).length ≤ l.length
  | [], _ => Nat.le_refl _
  | x :: r, i => by
    have := mk_len p H r (i + 1)
    unfold mk
    split <;> simp <;> omega
section
variable (l : List S40) (hl : l.length < 3518437208883) (a b : Int) (key : ByteArray) (wr : Bool)
include hl in
theorem keep_loop (H : Int) (out : List S25) (ho : out.length ≤ 4611686018427387904) (hH : 0 ≤ H → inB out (rd_T40 l H).f1 = false) (R : Res) (d : Nat) : ∀ (i : Nat) (m : List S40) (done : Bool), i + d = l.length → m.length ≤ i →
    Ev (fun k => ferruleref12_Ask.j6 k l key wr out (m ++ mk (fun x => inB out x.f1) H (l.drop i) i) (done || decide ((i : Int) ≤ H ∧ H < l.length)) (if (done || decide ((i : Int) ≤ H ∧ H < l.length)) = true then false else decide (((m ++ mk (fun x => inB out x.f1) H (l.drop i) i).length : Int) ≥ 48)) a b) R →
    Ev (fun k => ferruleref12_Ask.l2 k l key wr H out m done (i : Int) a b) R := by
  induction d with
  | zero =>
    intro i m done hi hm h
    rw [List.drop_of_length_le (by omega), decide_eq_false (by omega), Bool.or_false] at h
    simp only [mk, List.append_nil] at h
    refine Ev.step (fun k => ?_) h
    rw [ferruleref12_Ask.l2, if_neg (by omega)]
    cases done with
    | true => rfl
    | false => rfl
  | succ d ih =>
    intro i m done hi hm h
    have hw : wrap64 ((i : Int) + 1) = ((i + 1 : Nat) : Int) := by rw [wrap64_in (by omega) (by omega)]; omega
    rw [mk_at _ H l i (by omega)] at h
    refine Ev.step (f := fun k => (ferruleref12_Among.f k out (rd_T40 l (i : Int)).f1.f0 (rd_T40 l (i : Int)).f1.f1).bind fun t147 => if t147 = true then ferruleref12_Ask.l2 k l key wr H out m done ((i + 1 : Nat) : Int) a b else if (i : Int) = H then ferruleref12_Ask.l2 k l key wr H out (m ++ [⟨(rd_T40 l (i : Int)).f0, (rd_T40 l (i : Int)).f1, true⟩]) true ((i + 1 : Nat) : Int) a b else ferruleref12_Ask.l2 k l key wr H out (m ++ [rd_T40 l (i : Int)]) done ((i + 1 : Nat) : Int) a b) (fun k => ?_) ?_
    · rw [ferruleref12_Ask.l2, if_pos (by omega), if_pos (by omega), hw]
      simp only [if_pos (show m.length < 3518437208883 by omega)]
    refine Ev.bind (among_f out ho _ _) ?_
    rw [show (⟨(rd_T40 l (i : Int)).f1.f0, (rd_T40 l (i : Int)).f1.f1⟩ : S25) = (rd_T40 l (i : Int)).f1 from rfl]
    cases hin : inB out (rd_T40 l (i : Int)).f1 with
    | true =>
      have hne : (i : Int) ≠ H := fun e => by
        have := hH (by omega)
        rw [← e, hin] at this
        cases this
      simp only [hin, if_true] at h ⊢
      refine ih (i + 1) m done (by omega) (by omega) ?_
      rw [show decide (((i + 1 : Nat) : Int) ≤ H ∧ H < l.length) = decide ((i : Int) ≤ H ∧ H < l.length) from decide_eq_decide.2 (by omega)]
      exact h
    | false =>
      simp only [hin, if_neg (show ¬ (false = true) by simp)] at h ⊢
      by_cases he : (i : Int) = H
      · simp only [if_pos he] at h ⊢
        refine ih (i + 1) _ true (by omega) (by rw [List.length_append, List.length_singleton]; omega) ?_
        rw [List.append_assoc, List.singleton_append, Bool.true_or]
        rw [decide_eq_true (show (i : Int) ≤ H ∧ H < l.length by omega), Bool.or_true] at h
        exact h
      · simp only [if_neg he] at h ⊢
        refine ih (i + 1) _ done (by omega) (by rw [List.length_append, List.length_singleton]; omega) ?_
        rw [List.append_assoc, List.singleton_append, show decide (((i + 1 : Nat) : Int) ≤ H ∧ H < l.length) = decide ((i : Int) ≤ H ∧ H < l.length) from decide_eq_decide.2 (by omega)]
        exact h
theorem scan_not {t : S25} {key : ByteArray} {wr : Bool} {firm : List S25} : ∀ (l : List S40) (out r : List S25), scanB t key wr firm l out = some r → ¬ t ∈ out → ¬ t ∈ r
  | [], out, r, h, hn => by
    obtain rfl := Option.some.inj h
    exact hn
  | y :: l, out, r, h, hn => by
    unfold scanB at h
    by_cases hw : wayB y t key wr = true
    · rw [if_pos hw] at h
      by_cases hs : (inB firm y.f1 || !elderB t y.f1) = true
      · rw [if_pos hs] at h; cases h
      · rw [if_neg hs] at h
        refine scan_not l _ r h ?_
        split
        · exact hn
        · intro hm
          rcases List.mem_append.1 hm with hm | hm
          · exact hn hm
          · rw [List.mem_singleton] at hm
            exact (wayB_iff.1 hw).2.1 hm.symm
    · rw [if_neg hw] at h
      exact scan_not l out r h hn
include hl in
theorem refAsk (firm : List S25) (hf : firm.length ≤ 4611686018427387904) : Ev (fun k => ferruleref12_Ask.f k l a b key wr firm) (askI l ⟨a, b⟩ key wr firm) := by
  refine find_loop l hl a b key wr firm _ l.length 0 (by omega) (fun H hHe => ?_)
  have hHe : H = ofI ⟨a, b⟩ key l := hHe
  have hhas : (decide (0 ≤ H) && ((rd_T40 l H).f2 || !wr)) = hasI l ⟨a, b⟩ key wr := by rw [hHe]; rfl
  rw [hhas]
  cases hh : hasI l ⟨a, b⟩ key wr with
  | true =>
    refine Ev.step (f := fun _ => some (l, [], 0)) (fun k => by rw [ferruleref12_Ask.j2, if_pos rfl]) ?_
    rw [show askI l ⟨a, b⟩ key wr firm = (l, [], 0) by unfold askI; rw [if_pos hh]]
    exact Ev.now _
  | false =>
    rw [askI_eq _ _ _ _ _ hh]
    refine Ev.step (f := fun k => ferruleref12_Ask.l1 k l key wr firm H [] 0 a b) (fun k => by rw [ferruleref12_Ask.j2, if_neg (by simp)]) ?_
    refine scan_loop l hl a b key wr firm hf H _ l.length 0 [] (by omega) (Nat.le_refl _) (fun h => by rw [List.drop_zero] at h; rw [h]) (fun o ho => ?_)
    rw [List.drop_zero] at ho
    rw [ho]
    have hno : ¬ (⟨a, b⟩ : S25) ∈ o := scan_not l [] o ho (by simp)
    have hol := scan_len l [] o ho
    simp only [List.length_nil, Nat.zero_add] at hol
    have hsp := idxN_spec (p := p34 ⟨a, b⟩ key) l 0
    have hH : 0 ≤ H → inB o (rd_T40 l H).f1 = false := fun h0 => by
      have h1 := (idxN_some (p := p34 ⟨a, b⟩ key) (l := l) (by rw [hHe] at h0; exact h0)).1
      rw [hHe]
      rw [p34_iff] at h1
      rw [show ofI ⟨a, b⟩ key l = idxN (p34 ⟨a, b⟩ key) l 0 from rfl, h1.1]
      cases hq : inB o ⟨a, b⟩ with
      | false => rfl
      | true => exact absurd (inB_iff.1 hq) hno
    refine keep_loop l hl a b key wr H o (by omega) hH _ l.length 0 [] false (by omega) (Nat.le_refl _) ?_
    rw [List.drop_zero, List.nil_append, Bool.false_or]
    show Ev _ (askE l ⟨a, b⟩ key wr o)
    unfold askE askM
    rcases hsp with ⟨e, hall⟩ | ⟨q, hq, e, hbef, x, hx, hpx⟩
    · have hHm : H = -1 := by rw [hHe]; exact e
      have hm : mk (fun x => inB o x.f1) H l 0 = keepB (fun x => inB o x.f1) l := mk_low _ _ _ _ (by omega)
      have hof : ¬ 0 ≤ ofI ⟨a, b⟩ key (keepB (fun x => inB o x.f1) l) := by
        intro h0
        have h1 := idxN_some (p := p34 ⟨a, b⟩ key) h0
        have h2 := hall _ (mem_keep.1 h1.2).1
        rw [h1.1] at h2
        cases h2
      rw [hm, decide_eq_false (by omega), if_neg (by simp), if_neg hof]
      have hkl := keep_len (fun x => inB o x.f1) l
      by_cases h48 : 48 ≤ (keepB (fun x => inB o x.f1) l).length
      · rw [if_pos h48, decide_eq_true (by omega)]
        exact Ev.step (f := fun _ => some (l, [], 5)) (fun k => by rw [ferruleref12_Ask.j6, if_pos rfl]) (Ev.now _)
      · rw [if_neg h48, decide_eq_false (by omega)]
        exact Ev.step (f := fun _ => some (keepB (fun x => inB o x.f1) l ++ [⟨key, ⟨a, b⟩, wr⟩], o, 0)) (fun k => by rw [ferruleref12_Ask.j6, if_neg (by simp), if_neg (by simp), if_pos (by omega)]) (Ev.now _)
    · rw [Nat.zero_add] at e
      have hHq : H = (q : Int) := by rw [hHe]; exact e
      rw [List.getElem?_eq_getElem hq] at hx
      have hxl : l[q] = x := Option.some.inj hx
      have hsplit : l = l.take q ++ x :: l.drop (q + 1) := by rw [← hxl, ← List.drop_eq_getElem_cons hq, List.take_append_drop]
      have hlq : (l.take q).length = q := by rw [List.length_take]; omega
      have hpx' : inB o x.f1 = false := by
        have := hH (by omega)
        rw [hHq, rd_at l q hq, hxl] at this
        exact this
      have hm : mk (fun x => inB o x.f1) H l 0 = keepB (fun x => inB o x.f1) (l.take q) ++ ⟨x.f0, x.f1, true⟩ :: keepB (fun x => inB o x.f1) (l.drop (q + 1)) := by
        have := mk_split (fun x => inB o x.f1) (l.take q) x (l.drop (q + 1)) 0 hpx'
        rw [hlq, Nat.zero_add, ← hsplit] at this
        rw [hHq]
        exact this
      have hk : keepB (fun x => inB o x.f1) l = keepB (fun x => inB o x.f1) (l.take q) ++ x :: keepB (fun x => inB o x.f1) (l.drop (q + 1)) := by
        have h1 : keepB (fun x => inB o x.f1) (l.take q ++ x :: l.drop (q + 1)) = keepB (fun x => inB o x.f1) (l.take q) ++ x :: keepB (fun x => inB o x.f1) (l.drop (q + 1)) := by
          rw [keepB_append]
          unfold keepB
          rw [List.filter_cons, if_pos (by show (!inB o x.f1) = true; rw [hpx']; rfl)]
        rw [← hsplit] at h1
        exact h1
      have hof : ofI ⟨a, b⟩ key (keepB (fun x => inB o x.f1) l) = ((keepB (fun x => inB o x.f1) (l.take q)).length : Int) := by
        rw [hk]
        have := idxN_split (p := p34 ⟨a, b⟩ key) (keepB (fun x => inB o x.f1) (l.take q)) x (keepB (fun x => inB o x.f1) (l.drop (q + 1))) 0 (fun y hy => hbef y (mem_keep.1 hy).1) hpx
        rw [Nat.zero_add] at this
        exact this
      have hrd : rd_T40 (keepB (fun x => inB o x.f1) l) (((keepB (fun x => inB o x.f1) (l.take q)).length : Nat) : Int) = x := by
        rw [rd_at _ _ (by rw [hk]; simp)]
        simp only [hk]
        rw [List.getElem_append_right (Nat.le_refl _)]
        simp
      rw [decide_eq_true (by omega), if_pos rfl, hof, if_pos (by omega), hrd, Int.toNat_natCast]
      refine Ev.step (f := fun _ => some (mk (fun x => inB o x.f1) H l 0, o, 0)) (fun k => by rw [ferruleref12_Ask.j6, if_neg (by simp), if_pos rfl]) ?_
      rw [hm, hk, List.set_append_right _ _ (Nat.le_refl _), Nat.sub_self]
      exact Ev.now _
end
theorem askI_len (l : List S40) (t : S25) (key : ByteArray) (wr : Bool) (firm : List S25) : (askI l t key wr firm).1.length ≤ l.length + 1 ∧ (askI l t key wr firm).2.1.length ≤ l.length := by
  unfold askI
  by_cases hh : hasI l t key wr = true
  · rw [if_pos hh]; exact ⟨by simp, by simp⟩
  · rw [if_neg hh]
    cases hs : scanB t key wr firm l [] with
    | none => exact ⟨by simp, by simp⟩
    | some o =>
      have h1 := scan_len l [] o hs
      simp only [List.length_nil, Nat.zero_add] at h1
      have h2 := keep_len (fun x => inB o x.f1) l
      dsimp only
      unfold askE askM
      split
      · exact ⟨by simp; omega, h1⟩
      · split
        · exact ⟨by simp, by simp⟩
        · exact ⟨by simp; omega, h1⟩
theorem LockAsks : ferrulelaw12_LockAsks.Pure := by
  intro l a b key wr firm ⟨h1, h2, h3⟩ _ ⟨h4, h5, h6⟩
  have hl : l.length < 3518437208882 := by omega
  have hlen := askI_len l ⟨a, b⟩ key wr firm
  refine Ev.rounds ?_
  unfold ferrulelaw12_LockAsks.f
  rw [shown_true]
  simp only [Option.bind_some]
  rw [ask_f l a b key wr firm (by omega) (fun x hx => okT_of (h3 x hx).2.1) (fun x hx => okT_of (h6 x hx))]
  simp only [Option.bind_some]
  refine Ev.bind (refAsk l (by omega) a b key wr firm (by omega)) ?_
  refine Ev.bind (same_f _ (by omega)) ?_
  refine Ev.bind (sametx_f _ (by omega)) ?_
  simpa using Ev.now true
end Go.Proofs.Ytgmflfbhifdacaa.Pure
