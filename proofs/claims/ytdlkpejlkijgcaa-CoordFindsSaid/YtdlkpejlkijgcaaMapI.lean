/- Maps of ints that the call has made, told by a function of their keys; how many keys they have. Conditions: none. -/
import Derived.Test.YtdlkpejlkijgcaaWMore
import Derived.Maps.OwnOps
import Derived.Maps.OwnIn
import Derived.Maps.OwnSet
import Derived.Maps.Views
import Derived.Maps.Keyed
import Derived.DeepKeys4
namespace Go.Proofs.Ytdlkpejlkijgcaa.Hnd
open Go Go.RowKit Go.Maps Go.WideElems Go.Proofs.YtdlkpejlkijgcaaW.PrintWords
/-- Block b is a map of at most n entries, m of them now; at each key x that may be one it holds S x (none: it isn't there). -/
def MapI (P : Program) (k e : TypeId) {κ : Type} (enc : κ → Value) (ok : κ → Prop) (w : World) (b n : Nat) (S : κ → Option Int) (m : Nat) : Prop :=
  ∃ D : DataW Unit, w.ownsMap P k (plainElem P e) b n D ∧ (∀ x, ok x → ∀ kl, keyOf P k (enc x) = some kl → Maps.has D kl = (S x).isSome ∧ D.atKey kl (.lit (.int .i64 0)) = .lit (.int .i64 ((S x).getD 0))) ∧ Maps.size D = m
section
variable {P : Program} {k e : TypeId} {κ : Type} {enc : κ → Value} {ok : κ → Prop} {w w' : World} {b n m : Nat} {S : κ → Option Int}
theorem MapI.made (w : World) : MapI P k e enc ok (w.alloc (.map #[] 0)) w.heap.size 0 (fun _ => none) 0 :=
  ⟨.map [], World.ownsMap_made _ _ _ _, fun _ _ _ _ => ⟨rfl, rfl⟩, rfl⟩
theorem MapI.obj (h : MapI P k e enc ok w b n S m) : ∃ es c, w.heap[b]? = some (.map es c) := let ⟨_, ⟨es, c, h1, _⟩, _⟩ := h; ⟨es, c, h1⟩
theorem MapI.lt (h : MapI P k e enc ok w b n S m) : b < w.heap.size := let ⟨_, h1, _⟩ := h; h1.lt
theorem MapI.mono (h : MapI P k e enc ok w b n S m) {n' : Nat} (hn : n ≤ n') : MapI P k e enc ok w b n' S m := let ⟨D, h1, h2⟩ := h; ⟨D, h1.mono hn, h2⟩
theorem MapI.kept {row : Option Nat} (h : MapI P k e enc ok w b n S m) (hg : w.grownBy w' row) (hne : some b ≠ row) : MapI P k e enc ok w' b n S m := let ⟨D, h1, h2⟩ := h; ⟨D, h1.kept hg hne, h2⟩
theorem MapI.alloc (h : MapI P k e enc ok w b n S m) (o : Obj) : MapI P k e enc ok (w.alloc o) b n S m := h.kept (World.grownBy_alloc w o none) (by simp)
theorem MapI.below (h : MapI P k e enc ok w b n S m) (hb : Below w.heap.size w w') : MapI P k e enc ok w' b n S m := h.kept (grown_of_below hb none) (by simp)
theorem MapI.drewN (h : MapI P k e enc ok w b n S m) (q : Nat) : MapI P k e enc ok (w.drewN q) b n S m := h.below (pw_below_drewN (Below.refl _ _) q)
theorem MapI.set (h : MapI P k e enc ok w b n S m) {p : Addr} (hne : b ≠ p.block) (u : Value) : MapI P k e enc ok (w.setCell p u) b n S m :=
  h.kept (row := some p.block) ⟨rfl, rfl, rfl, by simp, fun i _ hi => Below.heap_setCell w p u i (fun e => hi (by rw [e]))⟩ (fun e => hne (Option.some.inj e))
theorem MapI.look {t : TypeId} (h : MapI P k e enc ok w b n S m) (K : Keyed P k) (ht : P.underlying t = some (.map k e)) (he : P.underlying e = some (.int .i64)) (hz : (zeroValue e).run P w = .ok (.int .i64 0) w) {x : κ} (hx : ok x) {kl : Lit} (hkey : keyOf P k (enc x) = some kl) :
    (Instr.lookup t (.map (some b)) (enc x) true).run P w = .ok (.tuple #[.int .i64 ((S x).getD 0), .bool (S x).isSome]) w := by
  obtain ⟨D, h1, h3, _⟩ := h
  obtain ⟨v, ps, hrun, hv⟩ := h1.look_ok K ht hz (plainElem_int he (by decide)) hkey
  obtain ⟨h4, h5⟩ := h3 x hx kl hkey
  rw [h5] at hv
  obtain ⟨c, rfl, hc, _⟩ := plainElem_int_inv he hv
  have hcc := congrArg Prod.fst hc
  simp at hcc
  rw [hrun, h4, hcc]
theorem MapI.len {t : TypeId} (h : MapI P k e enc ok w b n S m) (ht : P.underlying t = some (.map k e)) (ty : TypeId) : (Builtin.len_ #[t] ty #[.map (some b)]).run P w = .ok (.int .i64 m) w := by
  obtain ⟨D, h1, _, hs⟩ := h
  rw [← hs]
  exact h1.len ht ty
theorem MapI.update {t : TypeId} (h : MapI P k e enc ok w b n S m) (K : Keyed P k) (henc : ∀ x y, ok x → ok y → enc x = enc y → x = y) [DecidableEq κ] (ht : P.underlying t = some (.map k e)) (he : P.underlying e = some (.int .i64)) (hn : n < maxLen) {x : κ} (hx : ok x) {kl : Lit} (hkey : keyOf P k (enc x) = some kl) (c : Int) (hc : (Lit.int .i64 c).wf = true) :
    ∃ w', (Instr.mapUpdate t (.map (some b)) (enc x) (.int .i64 c)).run P w = .ok () w' ∧ MapI P k e enc ok w' b (n + 1) (fun y => if y = x then some c else S y) (if (S x).isSome then m else m + 1) ∧ w.grownBy w' (some b) := by
  obtain ⟨D, h1, h3, hs⟩ := h
  have h2 := h1.isMap
  obtain ⟨w', hrun, r1, r2⟩ := h1.update K ht hn hkey (plainElem_int he hc)
  refine ⟨w', hrun, ⟨_, r1, fun y hy ky hky => ?_, ?_⟩, r2⟩
  · by_cases hyx : y = x
    · subst hyx
      rw [hkey] at hky
      obtain rfl := Option.some.inj hky
      rw [Maps.atKey_put_same h2 (K.key hkey), Maps.has_put_same h2 (K.key hkey)]
      simp
    · have hne : ky ≠ kl := fun e => hyx (henc y x hy hx (K.inj hky (by rw [e]; exact hkey)))
      rw [Maps.atKey_put_other hne, Maps.has_put_other hne]
      simp only [if_neg hyx]
      exact h3 y hy ky hky
  · rw [Maps.size_put (h1.tidy K), (h3 x hx kl hkey).1, hs]
end
/-- 'm[k] = c' at the operation, inside a fence. -/
theorem wpListIn_mapUpdate_I {F : Fence} {nF : Nat} {P : Program} (w : World) {ops : Array Oper} {rest : List Oper} {o : Oper} {a : Act} {Q : Exit → Act → World → Prop} {κ : Type} [DecidableEq κ] {enc : κ → Value} {ok : κ → Prop} {S : κ → Option Int} {m0 : Nat}
    (hg : o.guard = none) (m x v : Operand) (t : TypeId) (hop : o.op = Op.mapUpdate t m x v) (k e : TypeId) (K : Keyed P k) (henc : ∀ x y, ok x → ok y → enc x = enc y → x = y) (ht : P.underlying t = some (.map k e)) (he : P.underlying e = some (.int .i64)) (b n : Nat)
    (hm : a.eval m = .map (some b)) (hown : MapI P k e enc ok w b n S m0) (hn : n < maxLen) (y : κ) (hy : ok y) (kl : Lit) (hx : a.eval x = enc y) (c : Int) (hc : (Lit.int .i64 c).wf = true) (hv : a.eval v = .int .i64 c) (hkey : keyOf P k (enc y) = some kl)
    (hK : ∀ w', MapI P k e enc ok w' b (n + 1) (fun z => if z = y then some c else S z) (if (S y).isSome then m0 else m0 + 1) → w.grownBy w' (some b) → wpListIn F nF P ops Q rest (a.put o.dst undef) w') :
    wpListIn F nF P ops Q (o :: rest) a w := by
  refine wpListIn_plain hg fun K' hK' => ?_
  obtain ⟨w', hrun, r1, r2⟩ := hown.update K henc ht he hn hy hkey c hc
  unfold Oper.wpIn
  refine ⟨by simp [Oper.about, hop], ?_⟩
  rw [Oper.semAt_plain F _ _ (by rw [hop]; intro c hc'; cases hc')]
  simp [execOp, hop, hm, hx, hv, hrun, Result.andThen]
  exact hK' _ _ (hK w' r1 r2)
end Go.Proofs.Ytdlkpejlkijgcaa.Hnd
