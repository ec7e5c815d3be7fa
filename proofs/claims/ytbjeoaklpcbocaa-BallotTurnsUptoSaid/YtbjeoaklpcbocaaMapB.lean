/- Maps of bools that the call has made: a set, told by a Bool function of its keys. Conditions: none. -/
import Derived.Test.YtbjeoaklpcbocaaWMore
import Derived.Maps.OwnOps
import Derived.Maps.OwnSet
import Derived.Maps.Views
import Derived.Maps.Keyed
import Derived.DeepKeys4
namespace Go.Proofs.Ytbjeoaklpcbocaa.Hnd
open Go Go.RowKit Go.Maps Go.WideElems Go.Proofs.YtbjeoaklpcbocaaW.PrintWords
theorem plainElem_bool_inv {H : Type} {P : Program} {e : TypeId} (he : P.underlying e = some .bool) {v : Value} {c : Bool} {ps : List MemPlace} (h : plainElem (H := H) P e v = some (.lit (.bool c), ps)) : v = .bool c := by
  unfold plainElem at h
  rw [he] at h
  cases v <;> simp at h
  obtain ⟨rfl, _⟩ := h
  rfl
/-- Block b is a map of at most n entries; at each key x that may be one it holds S x (absent: false). -/
def MapB (P : Program) (k e : TypeId) {κ : Type} (enc : κ → Value) (ok : κ → Prop) (w : World) (b n : Nat) (S : κ → Bool) : Prop :=
  ∃ D : DataW Unit, w.ownsMap P k (plainElem P e) b n D ∧ Maps.IsMap D ∧ ∀ x, ok x → ∀ kl, keyOf P k (enc x) = some kl → D.atKey kl (.lit (.bool false)) = .lit (.bool (S x))
section
variable {P : Program} {k e : TypeId} {κ : Type} {enc : κ → Value} {ok : κ → Prop} {w w' : World} {b n : Nat} {S : κ → Bool}
theorem MapB.made (w : World) : MapB P k e enc ok (w.alloc (.map #[] 0)) w.heap.size 0 (fun _ => false) :=
  ⟨.map [], World.ownsMap_made _ _ _ _, ⟨[], rfl⟩, fun _ _ _ _ => rfl⟩
theorem MapB.obj (h : MapB P k e enc ok w b n S) : ∃ es c, w.heap[b]? = some (.map es c) := let ⟨_, ⟨es, c, h1, _⟩, _⟩ := h; ⟨es, c, h1⟩
/-- A map stands beside a row that is written. -/
theorem MapB.over {α : Type} {d : Kd α} {t base : Nat} {okr : Nat → Prop} {v : Value} {xs : List α} (h : MapB P k e enc ok w b n S) (hr : d.R t w base okr v xs) (hg : w.grownBy w' v.ownBlock) : MapB P k e enc ok w' b n S := by
  obtain ⟨es, c, ho⟩ := MapB.obj h
  obtain ⟨D, h1, h2⟩ := h
  refine ⟨D, h1.kept hg (fun he => ?_), h2⟩
  obtain ⟨cells, hc⟩ := Kd.R_typed hr b he.symm
  rw [ho] at hc
  cases hc
theorem MapB.other {b2 : Nat} (h : MapB P k e enc ok w b n S) (hne : b ≠ b2) (hg : w.grownBy w' (some b2)) : MapB P k e enc ok w' b n S := let ⟨D, h1, h2⟩ := h; ⟨D, h1.kept hg (fun he => hne (Option.some.inj he)), h2⟩
/-- A row stands beside a map that is written. -/
theorem R_map {α : Type} {d : Kd α} {t base : Nat} {okr : Nat → Prop} {v : Value} {xs : List α} {b : Nat} (h : d.R t w base okr v xs) (hm : ∃ es c, w.heap[b]? = some (.map es c)) (hg : w.grownBy w' (some b)) : d.R t w' base okr v xs := by
  refine Kd.R_mono (Kd.R_grown (Kd.R_bound h) hg (fun k hk he => ?_)) (fun k hk => hk.1)
  obtain ⟨_, _, _, q, _, cells, hc⟩ := hk
  obtain ⟨es, c, ho⟩ := hm
  rw [← Option.some.inj he, hc] at ho
  cases ho
theorem MapB.lt (h : MapB P k e enc ok w b n S) : b < w.heap.size := let ⟨_, h1, _⟩ := h; h1.lt
theorem MapB.mono (h : MapB P k e enc ok w b n S) {n' : Nat} (hn : n ≤ n') : MapB P k e enc ok w b n' S := let ⟨D, h1, h2⟩ := h; ⟨D, h1.mono hn, h2⟩
theorem MapB.kept {row : Option Nat} (h : MapB P k e enc ok w b n S) (hg : w.grownBy w' row) (hne : some b ≠ row) : MapB P k e enc ok w' b n S := let ⟨D, h1, h2⟩ := h; ⟨D, h1.kept hg hne, h2⟩
theorem MapB.alloc (h : MapB P k e enc ok w b n S) (o : Obj) : MapB P k e enc ok (w.alloc o) b n S := h.kept (World.grownBy_alloc w o none) (by simp)
theorem MapB.below (h : MapB P k e enc ok w b n S) (hb : Below w.heap.size w w') : MapB P k e enc ok w' b n S := h.kept (grown_of_below hb none) (by simp)
theorem MapB.drewN (h : MapB P k e enc ok w b n S) (m : Nat) : MapB P k e enc ok (w.drewN m) b n S := h.below (pw_below_drewN (Below.refl _ _) m)
theorem MapB.set (h : MapB P k e enc ok w b n S) {p : Addr} (hne : b ≠ p.block) (u : Value) : MapB P k e enc ok (w.setCell p u) b n S :=
  h.kept (row := some p.block) ⟨rfl, rfl, rfl, by simp, fun i _ hi => Below.heap_setCell w p u i (fun e => hi (by rw [e]))⟩ (fun e => hne (Option.some.inj e))
theorem MapB.ext (h : MapB P k e enc ok w b n S) {S' : κ → Bool} (hS : ∀ x, ok x → S x = S' x) : MapB P k e enc ok w b n S' := let ⟨D, h1, h2, h3⟩ := h; ⟨D, h1, h2, fun x hx kl hk => by rw [← hS x hx]; exact h3 x hx kl hk⟩
theorem MapB.lookup {t : TypeId} (h : MapB P k e enc ok w b n S) (K : Keyed P k) (ht : P.underlying t = some (.map k e)) (he : P.underlying e = some .bool) (hz : (zeroValue e).run P w = .ok (.bool false) w) {x : κ} (hx : ok x) {kl : Lit} (hkey : keyOf P k (enc x) = some kl) :
    (Instr.lookup t (.map (some b)) (enc x) false).run P w = .ok (.bool (S x)) w := by
  obtain ⟨D, h1, h2, h3⟩ := h
  obtain ⟨v, ps, hrun, hv⟩ := h1.lookup K ht hz (plainElem_bool he false) hkey
  rw [h3 x hx kl hkey] at hv
  rw [hrun, plainElem_bool_inv he hv]
theorem MapB.update {t : TypeId} (h : MapB P k e enc ok w b n S) (K : Keyed P k) (henc : ∀ x y, ok x → ok y → enc x = enc y → x = y) [DecidableEq κ] (ht : P.underlying t = some (.map k e)) (he : P.underlying e = some .bool) (hn : n < maxLen) {x : κ} (hx : ok x) {kl : Lit} (hkey : keyOf P k (enc x) = some kl) (c : Bool) :
    ∃ w', (Instr.mapUpdate t (.map (some b)) (enc x) (.bool c)).run P w = .ok () w' ∧ MapB P k e enc ok w' b (n + 1) (fun y => if y = x then c else S y) ∧ w.grownBy w' (some b) := by
  obtain ⟨D, h1, h2, h3⟩ := h
  obtain ⟨w', hrun, r1, r2⟩ := h1.update K ht hn hkey (plainElem_bool he c)
  refine ⟨w', hrun, ⟨_, r1, h2.put _ _, fun y hy ky hky => ?_⟩, r2⟩
  by_cases hyx : y = x
  · subst hyx
    rw [hkey] at hky
    obtain rfl := Option.some.inj hky
    rw [Maps.atKey_put_same h2 (K.key hkey)]
    simp
  · have hne : ky ≠ kl := fun e => hyx (henc y x hy hx (K.inj hky (by rw [e]; exact hkey)))
    rw [Maps.atKey_put_other hne, h3 y hy ky hky]
    simp [hyx]
end
/-- 'm[k] = c' at the operation. -/
theorem wpList_mapUpdate_B {P : Program} (w : World) {ops : Array Oper} {rest : List Oper} {o : Oper} {a : Act} {Q : Exit → Act → World → Prop} {κ : Type} [DecidableEq κ] {enc : κ → Value} {ok : κ → Prop} {S : κ → Bool}
    (hg : o.guard = none) (m x v : Operand) (t : TypeId) (hop : o.op = Op.mapUpdate t m x v) (k e : TypeId) (K : Keyed P k) (henc : ∀ x y, ok x → ok y → enc x = enc y → x = y) (ht : P.underlying t = some (.map k e)) (he : P.underlying e = some .bool) (b n : Nat)
    (hm : a.eval m = .map (some b)) (hown : MapB P k e enc ok w b n S) (hn : n < maxLen) (y : κ) (hy : ok y) (kl : Lit) (hx : a.eval x = enc y) (c : Bool) (hv : a.eval v = .bool c) (hkey : keyOf P k (enc y) = some kl)
    (hK : ∀ w', MapB P k e enc ok w' b (n + 1) (fun z => if z = y then c else S z) → w.grownBy w' (some b) → wpList P ops Q rest (a.put o.dst undef) w') :
    wpList P ops Q (o :: rest) a w := by
  refine wpList_plain hg fun K' hK' => ?_
  obtain ⟨w', hrun, r1, r2⟩ := hown.update K henc ht he hn hy hkey c
  unfold Oper.wp
  simp [execOp, hop, hm, hx, hv, hrun, Result.andThen]
  exact hK' _ _ (hK w' r1 r2)
end Go.Proofs.Ytbjeoaklpcbocaa.Hnd
