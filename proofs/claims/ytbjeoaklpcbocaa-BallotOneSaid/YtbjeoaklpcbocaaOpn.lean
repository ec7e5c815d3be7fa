/- What a law's argument reads as: for each kind of the print a lemma that opens it (numbers, bools, strings, slices, structs), with the bounds that the row pays. Conditions: none. -/
import Derived.Test.YtbjeoaklpcbocaaWMore
import Derived.Deep.Slices
import Derived.Lib.SmallJoins
import Derived.ProofKit
import Derived.SizedLaws
namespace Go.Proofs.Ytbjeoaklpcbocaa.Opn
open Go.ChangeShapes Go.WideShapes Go.Deep Go.RowKit Go.Proofs.YtbjeoaklpcbocaaW.PrintWords

/-- What reads as data at type t is of kind d, and meets Q. -/
def Opn (P : Program) (t : TypeId) {α : Type} (d : Kd α) (Q : α → Prop) : Prop :=
  ∀ {H : Type} (enc : TypeId × Value → H) (W : World) (fuel : Nat) (cs : List Value) (x : DataW H × List MemPlace), DataW.trod enc P W 0 (fun _ => true) true fuel t cs = some x → (∀ n, n ∈ DataW.weights P t x.1 → n ≤ 140737488351232) → ∃ a : α, d.K W a cs ∧ Q a

theorem opn_int {P : Program} {t : TypeId} {k : IntKind} (ht : P.underlying t = some (.int k)) : Opn P t (Kd.int k) (fun n => (Lit.int k n).wf = true) := by
  intro H enc W fuel cs x h _
  obtain ⟨n, rfl, _, hw⟩ := DataW.trod_int ht h
  exact ⟨n, rfl, hw⟩

theorem opn_bool {P : Program} {t : TypeId} (ht : P.underlying t = some .bool) : Opn P t Kd.bool (fun _ => True) := by
  intro H enc W fuel cs x h _
  obtain ⟨n, rfl, _⟩ := DataW.trod_bool ht h
  exact ⟨n, rfl, trivial⟩

theorem opn_string {P : Program} {t : TypeId} (ht : P.underlying t = some .string) : Opn P t Kd.string (fun s => s.size ≤ 140737488351232) := by
  intro H enc W fuel cs x h hn
  obtain ⟨s, rfl, rfl, _⟩ := DataW.trod_string ht h
  refine ⟨s, rfl, ?_⟩
  have := hn s.data.toList.length (by simp only [DataW.weights]; exact List.mem_singleton.2 rfl)
  rw [Array.length_toList] at this
  exact this

theorem mem_weightsAll {H : Type} (P : Program) (e : TypeId) : ∀ (l : List (DataW H)) (d : DataW H), d ∈ l → ∀ n, n ∈ DataW.weights P e d → n ∈ DataW.weightsAll P e l
  | [], _, hd, _, _ => by cases hd
  | x :: r, d, hd, n, hn => by
    simp only [DataW.weightsAll]
    rcases List.mem_cons.1 hd with rfl | hd
    · exact List.mem_append_left _ hn
    · exact List.mem_append_right _ (mem_weightsAll P e r d hd n hn)

theorem cells_get {W : World} {a : Addr} : ∀ {n : Nat} {cs : List Value}, W.cells? 0 a n = some cs → cs.length = n ∧ ∀ i u, cs[i]? = some u → W.cell? (a.add i) = some u := by
  intro n cs h
  simp only [World.cells?, Nat.zero_le, if_true] at h
  refine ⟨by simpa using mapM_some_length h, fun i u hu => ?_⟩
  have hi : i < n := by
    have h1 := (List.getElem?_eq_some_iff.1 hu).1
    have h2 := mapM_some_length h
    simp at h2
    omega
  have := mapM_some_get h i i (by simp [hi])
  rw [hu] at this
  exact this

theorem opn_slice {P : Program} {t e : TypeId} {α : Type} {d : Kd α} {Q : α → Prop} (ht : P.underlying t = some (.slice e)) (hc : P.cellsOf e = d.sz) {B : Nat} (hB : P.bytesOf e = B) (he : Opn P e d Q) :
    Opn P t (Kd.slice e d) (fun xs => xs.length ≤ maxLen ∧ xs.length * B ≤ 140737488351232 ∧ ∀ x, x ∈ xs → Q x) := by
  intro H enc W fuel cs x h hn
  rcases open_slice ht h with ⟨rfl, _⟩ | ⟨a, len, cap, m, n, D, Pl, rfl, _, hl, hm, hmm, rfl, hx⟩
  · exact ⟨[], ⟨none, 0, rfl, Nat.le_refl _, rfl, by simp, fun hp => absurd hp (by simp)⟩, by simp, by simp, fun x hx => by cases hx⟩
  · simp only [if_true] at hmm
    subst hmm
    have key : ∀ i, i < len → ∃ y : α, (∃ c, c.length = d.sz ∧ d.K W y c ∧ ∀ j u, c[j]? = some u → W.cell? (a.add (i * d.sz + j)) = some u) ∧ Q y := by
      intro i hi
      obtain ⟨cs', h1, h2⟩ := hx i (by omega)
      obtain ⟨y, hy, hq⟩ := he enc W n cs' _ h2 (fun k hk => hn k (by
        simp only [DataW.weights, ht]
        refine List.mem_cons_of_mem _ (List.mem_append_left _ ?_)
        exact mem_weightsAll P e _ (D i) (List.mem_map.2 ⟨i, List.mem_range.2 hi, rfl⟩) k hk))
      obtain ⟨h3, h4⟩ := cells_get h1
      rw [hc] at h3
      refine ⟨y, ⟨cs', h3, hy, fun j u hu => ?_⟩, hq⟩
      have h5 := h4 j u hu
      rw [Go.Deep.add_add, hc] at h5
      exact h5
    have hlist : ∀ k, k ≤ len → ∃ xs : List α, xs.length = k ∧ ∀ i y, xs[i]? = some y → (∃ c, c.length = d.sz ∧ d.K W y c ∧ ∀ j u, c[j]? = some u → W.cell? (a.add (i * d.sz + j)) = some u) ∧ Q y := by
      intro k
      induction k with
      | zero => exact fun _ => ⟨[], rfl, fun i y hy => by simp at hy⟩
      | succ k ih =>
        intro hk
        obtain ⟨xs, h1, h2⟩ := ih (by omega)
        obtain ⟨y, hy⟩ := key k (by omega)
        refine ⟨xs ++ [y], by simp [h1], fun i z hz => ?_⟩
        rcases Nat.lt_or_ge i xs.length with hlt | hge
        · rw [List.getElem?_append_left hlt] at hz
          exact h2 i z hz
        · have hi : i = xs.length := by
            have := (List.getElem?_eq_some_iff.1 hz).1
            simp at this
            omega
          subst hi
          have : y = z := by simpa using hz
          subst this
          rw [h1]
          exact hy
    obtain ⟨xs, h1, h2⟩ := hlist len (Nat.le_refl _)
    have hml : len ≤ maxLen := Nat.le_trans hl hm
    refine ⟨xs, ⟨some a, m, by rw [h1], by omega, h1 ▸ rfl, by rw [h1]; exact hml, fun _ => ⟨a, rfl, fun j p hj => (h2 j p hj).1⟩⟩, by rw [h1]; exact hml, ?_, fun x hx => ?_⟩
    · have hw := hn _ (by simp only [DataW.weights, ht]; exact List.mem_cons_self ..)
      rw [hB] at hw
      simp only [List.length_map, List.length_range] at hw
      exact Nat.le_trans (Nat.mul_le_mul_right _ (by omega)) hw
    · obtain ⟨i, hi, rfl⟩ := List.getElem_of_mem hx
      exact (h2 i _ (List.getElem?_eq_getElem hi)).2

/-- Fields one behind the other, from 'off' on, to the end of a struct of 'tot' cells. -/
def OpnF (P : Program) (off tot : Nat) (fs : List Field) {α : Type} (d : Kd α) (Q : α → Prop) : Prop :=
  ∀ {H : Type} (enc : TypeId × Value → H) (W : World) (n : Nat) (cs : List Value) (xs : List (DataW H × List MemPlace)), xs.length = fs.length → cs.length = tot →
    (∀ (i : Nat) (f : Field), fs[i]? = some f → DataW.trod enc P W 0 (fun _ => true) true n f.type ((cs.drop f.offset).take (P.cellsOf f.type)) = xs[i]?) →
    (∀ m, m ∈ DataW.weightsEach P (fs.map (·.type)) (xs.map (·.1)) → m ≤ 140737488351232) → ∃ a : α, d.K W a (cs.drop off) ∧ Q a

theorem opnF_last {P : Program} {off tot : Nat} {f : Field} {α : Type} {d : Kd α} {Q : α → Prop} (h : Opn P f.type d Q) (ho : f.offset = off) (hc : P.cellsOf f.type + off = tot) : OpnF P off tot [f] d Q := by
  intro H enc W n cs xs hl hlen hx hn
  match xs, hl with
  | [x], _ =>
    have h0 := hx 0 f rfl
    rw [ho, List.take_of_length_le (by rw [List.length_drop]; omega)] at h0
    exact h enc W n _ x h0 (fun m hm => hn m (by
      simp only [List.map_cons, List.map_nil, DataW.weightsEach]
      exact List.mem_append_left _ hm))

theorem opnF_cons {P : Program} {off off' tot : Nat} {f : Field} {fs : List Field} {α β : Type} {d : Kd α} {d' : Kd β} {Q : α → Prop} {Q' : β → Prop} (h : Opn P f.type d Q) (ho : f.offset = off) (hc : off + P.cellsOf f.type = off') (hr : OpnF P off' tot fs d' Q') :
    OpnF P off tot (f :: fs) (Kd.pair d d') (fun x => Q x.1 ∧ Q' x.2) := by
  intro H enc W n cs xs hl hlen hx hn
  match xs, hl with
  | x :: xs, hl =>
    have h0 := hx 0 f rfl
    rw [ho] at h0
    obtain ⟨a, ha, hqa⟩ := h enc W n _ x h0 (fun m hm => hn m (by
      simp only [List.map_cons, DataW.weightsEach]
      exact List.mem_append_left _ hm))
    obtain ⟨b, hb, hqb⟩ := hr enc W n cs xs (by simpa using hl) hlen (fun i g hg => by simpa using hx (i + 1) g (by simpa using hg)) (fun m hm => hn m (by
      simp only [List.map_cons, DataW.weightsEach]
      exact List.mem_append_right _ hm))
    refine ⟨(a, b), ⟨_, _, ?_, ha, hb⟩, hqa, hqb⟩
    rw [← hc, ← List.drop_drop, List.take_append_drop]

theorem opn_struct {P : Program} {t : TypeId} {fs : Array Field} {fl : List Field} {tot : Nat} {α β : Type} {d : Kd α} {Q : α → Prop} (f : β → α) (g : α → β) (hfg : ∀ x, f (g x) = x) (ht : P.underlying t = some (.struct fs)) (hfl : fs.toList = fl) (htot : P.cellsOf t = tot) (h : OpnF P 0 tot fl d Q) :
    Opn P t (Kd.iso d f) (fun x => Q (f x)) := by
  intro H enc W fuel cs x hx hn
  obtain ⟨xs, n, _, rfl, hl, hlen, hf⟩ := DataW.trod_struct ht hx
  subst hfl
  obtain ⟨a, ha, hq⟩ := h enc W n cs xs (by simpa using hlen) (by rw [hl, htot]) (fun i g hg => hf i g (by simpa using hg)) (fun m hm => hn m (by simpa only [DataW.weights, ht] using hm))
  exact ⟨g a, by show d.K W (f (g a)) cs; rw [hfg]; simpa using ha, by show Q (f (g a)); rw [hfg]; exact hq⟩

/-- A struct that is an argument: its value, its fields. -/
theorem at_struct {P : Program} {t : TypeId} {fs : Array Field} {α : Type} {d : Kd α} {Q : α → Prop} (h : Opn P t d Q) (hs : P.underlying t = some (.struct fs)) {r : Reach} {b0 : Nat} {H : Type} {enc : TypeId × Value → H} {W : World} {v : Value} {dd : DataW H} {p : List MemPlace}
    (hv : Value.okWide P W r b0 t v) (ht : DataW.Trod enc P W 0 (fun _ => true) true t v dd p) (hn : ∀ n, n ∈ DataW.weights P t dd → n ≤ 140737488351232) : ∃ (a : α) (l : List Value), v = .agg l.toArray ∧ d.K W a l ∧ Q a := by
  obtain ⟨cs, rfl, _⟩ := okWide_struct hs hv
  obtain ⟨fuel, hf⟩ := ht
  obtain ⟨a, ha, hq⟩ := h enc W fuel _ _ hf hn
  exact ⟨a, cs.toList, by rw [Array.toArray_toList], ha, hq⟩
/-- A slice that is an argument. -/
theorem at_slice {P : Program} {t e : TypeId} {α : Type} {d : Kd α} {Q : List α → Prop} (h : Opn P t (Kd.slice e d) Q) (hs : P.underlying t = some (.slice e)) {r : Reach} {b0 : Nat} {H : Type} {enc : TypeId × Value → H} {W : World} {v : Value} {dd : DataW H} {p : List MemPlace}
    (hv : Value.okWide P W r b0 t v) (ht : DataW.Trod enc P W 0 (fun _ => true) true t v dd p) (hn : ∀ n, n ∈ DataW.weights P t dd → n ≤ 140737488351232) : ∃ (xs : List α) (A : Option Addr) (c : Nat), v = .slice A xs.length c ∧ xs.length ≤ c ∧ d.C W A xs.length xs ∧ Q xs := by
  obtain ⟨A, len, c, rfl⟩ := okWide_slice hs hv
  obtain ⟨fuel, hf⟩ := ht
  obtain ⟨xs, ⟨A', c', e', hl, hC⟩, hq⟩ := h enc W fuel _ _ hf hn
  simp only [Value.cells] at e'
  obtain ⟨rfl, rfl, rfl⟩ : A = A' ∧ len = xs.length ∧ c = c' := by simpa using e'
  exact ⟨xs, _, _, rfl, hl, hC, hq⟩
/-- A number, a bool, a string that is an argument: its value. -/
theorem weights_of {H : Type} {P : Program} {ts : List TypeId} {ds : List (DataW H)} {j : Nat} {t : TypeId} {d : DataW H} (hsz : (DataW.weightsEach P ts ds).all (· ≤ reachBytes) = true) (ht : ts[j]? = some t) (hd : ds[j]? = some d) : ∀ n, n ∈ DataW.weights P t d → n ≤ 140737488351232 := by
  intro n hn
  have hm : n ∈ DataW.weightsEach P ts ds := by
    clear hsz
    induction j generalizing ts ds with
    | zero =>
      match ts, ds, ht, hd with
      | t' :: ts, d' :: ds, ht, hd =>
        simp at ht hd
        subst ht hd
        simp only [DataW.weightsEach]
        exact List.mem_append_left _ hn
    | succ j ih =>
      match ts, ds, ht, hd with
      | t' :: ts, d' :: ds, ht, hd =>
        simp only [DataW.weightsEach]
        exact List.mem_append_right _ (ih (by simpa using ht) (by simpa using hd))
  have := List.all_eq_true.1 hsz n hm
  exact of_decide_eq_true this
end Go.Proofs.Ytbjeoaklpcbocaa.Opn
