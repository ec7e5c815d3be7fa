/- group.Need, group.Most: what they compute, and that they do. Conditions: none. -/
import Derived.Test.YtbjeoaklpcbocaaPr0
import Derived.Test.YtbjeoaklpcbocaaHnd
import Derived.Test.YtbjeoaklpcbocaaMapB
namespace Go.Proofs.Ytbjeoaklpcbocaa.Hnd
open Go Go.RowKit Go.Maps Go.WideElems Go.Proofs.YtbjeoaklpcbocaaW.PrintWords
section
variable {P : Program} {k e : TypeId} {κ : Type} {enc : κ → Value} {ok : κ → Prop} {w w' : World} {b n : Nat} {S : κ → Bool}
theorem MapB.drop {t : TypeId} (h : MapB P k e enc ok w b n S) (K : Keyed P k) (henc : ∀ x y, ok x → ok y → enc x = enc y → x = y) [DecidableEq κ] (ht : P.underlying t = some (.map k e)) {x : κ} (hx : ok x) {kl : Lit} (hkey : keyOf P k (enc x) = some kl) (ty : TypeId) :
    ∃ w', (Builtin.delete_ #[t, k] ty #[.map (some b), enc x]).run P w = .ok (.tuple #[]) w' ∧ MapB P k e enc ok w' b n (fun y => if y = x then false else S y) ∧ w.grownBy w' (some b) := by
  obtain ⟨D, h1, h2, h3⟩ := h
  obtain ⟨w', hrun, r1, r2⟩ := h1.drop K ht hkey ty
  refine ⟨w', hrun, ⟨_, r1, h2.del _, fun y hy ky hky => ?_⟩, r2.grown⟩
  by_cases hyx : y = x
  · subst hyx
    rw [hkey] at hky
    obtain rfl := Option.some.inj hky
    rw [Maps.atKey_del_same]
    simp
  · have hne : ky ≠ kl := fun e => hyx (henc y x hy hx (K.inj hky (by rw [e]; exact hkey)))
    rw [Maps.atKey_del_other hne, h3 y hy ky hky]
    simp [hyx]
end
/-- 'delete(m, k)' at the operation. -/
theorem wpList_delete_B {P : Program} (w : World) {ops : Array Oper} {rest : List Oper} {o : Oper} {a : Act} {Q : Exit → Act → World → Prop} {κ : Type} [DecidableEq κ] {enc : κ → Value} {ok : κ → Prop} {S : κ → Bool}
    (hg : o.guard = none) (m x : Operand) (t k e : TypeId) (hop : o.op = Op.call { callee := Callee.builtin Builtin.delete, args := #[m, x], argTypes := #[t, k] }) (K : Keyed P k) (henc : ∀ x y, ok x → ok y → enc x = enc y → x = y) (ht : P.underlying t = some (.map k e)) (b n : Nat)
    (hm : a.eval m = .map (some b)) (hown : MapB P k e enc ok w b n S) (y : κ) (hy : ok y) (kl : Lit) (hx : a.eval x = enc y) (hkey : keyOf P k (enc y) = some kl)
    (hK : ∀ w', MapB P k e enc ok w' b n (fun z => if z = y then false else S z) → w.grownBy w' (some b) → wpList P ops Q rest (a.put o.dst (.tuple #[])) w') :
    wpList P ops Q (o :: rest) a w := by
  refine wpList_plain hg fun K' hK' => ?_
  obtain ⟨w', hrun, r1, r2⟩ := hown.drop K henc ht hy hkey o.type
  unfold Oper.wp
  simp [execOp, hop, resolve, invoke, builtin, hm, hx, hrun, Result.andThen]
  exact hK' _ _ (hK w' r1 r2)
end Go.Proofs.Ytbjeoaklpcbocaa.Hnd
namespace Go.Proofs.Ytbjeoaklpcbocaa.Pr
open Go.RowKit Go.Proofs.YtbjeoaklpcbocaaW.PrintWords Go.Proofs.YtbjeoaklpcbocaaW.PrintLast Go.Proofs.YtbjeoaklpcbocaaW.PrintMore
open Go.Proofs.Ytbjeoaklpcbocaa.Hnd
attribute [local go_sem] setCell_drewN_ alloc_drewN_
set_option linter.unusedVariables false
set_option linter.unusedSimpArgs false
theorem blk_newAt {W : World} {o : Obj} (n : Nat) (hn : W.heap.size = n) : (W.alloc o).heap[n]? = some o := hn ▸ blk_new W o
def needI (n : Nat) : Int := wrap64 (wrap64 ((n : Int) / 2) + 1)
theorem need_calls (A1 : Option Addr) (n1 c1 : Nat) (A : Option Addr) (n c : Nat) (w : World) :
    Calls Try.prog 26 #[.agg #[.slice A n c, .slice A1 n1 c1]] w fun e w' => e = .returned (.int .i64 (needI n)) ∧ Below w.heap.size w w' := by
  go_enter Try.func26, Try.ntmps26
  go_wp2
  go_ret
  exact ⟨rfl, below_alloc (Below.refl _ _) _⟩
def enc22 (x : Int) : Value := .int .u64 x
def okU (x : Int) : Prop := (Lit.int .u64 x).wf = true
theorem enc22_inj (x y : Int) (h : enc22 x = enc22 y) : x = y := by simpa [enc22] using h
theorem keyed22 : Go.Maps.Keyed Try.prog 22 := Go.Maps.int_keyed Try.underlying22
theorem key22 (x : Int) (h : okU x) : ∃ kl, keyOf Try.prog 22 (enc22 x) = some kl := by
  have h : (Lit.int .u64 x).wf = true := h
  unfold keyOf enc22
  rw [Try.underlying22]
  simp [mapKey, Try.underlying22, h]
abbrev Set62 := MapB Try.prog 22 4 enc22 okU
theorem zero4 (w : World) : (zeroValue 4).run Try.prog w = .ok (.bool false) w := by kernel_rfl
theorem look62 {w : World} {b n : Nat} {S : Int → Bool} (h : Set62 w b n S) (x : Int) (hx : okU x) : (Instr.lookup 62 (.map (some b)) (.int .u64 x) false).run Try.prog w = .ok (.bool (S x)) w := by
  obtain ⟨kl, hk⟩ := key22 x hx
  exact MapB.lookup h keyed22 Try.underlying62 Try.underlying4 (zero4 w) hx hk
theorem rdI_at (l : List Int) (i : Nat) (h : i < l.length) : rd l (i : Int) = l[i] := by simp [rd, List.getD_eq_getElem?_getD, h]
def inL (l : List Int) : Int → Bool := fun y => decide (y ∈ l)
theorem inL_next (l : List Int) (i : Nat) (h : i < l.length) : (fun z => if z = l[i] then true else inL (l.take i) z) = inL (l.take (i + 1)) := by
  funext z
  unfold inL
  have e : z ∈ l.take (i + 1) ↔ z ∈ l.take i ∨ z = l[i] := by rw [List.take_succ_eq_append_getElem h, List.mem_append, List.mem_singleton]
  by_cases hz : z = l[i]
  · rw [if_pos hz, decide_eq_true (e.2 (.inr hz))]
  · rw [if_neg hz]
    exact decide_eq_decide.2 ⟨fun h => e.2 (.inl h), fun h => (e.1 h).resolve_right hz⟩
/-- How many of a set are met, each once. -/
def cntN : List Int → (Int → Bool) → Nat
  | [], _ => 0
  | v :: r, S => if S v = true then cntN r (fun y => if y = v then false else S y) + 1 else cntN r S
theorem cntN_cons (v : Int) (r : List Int) (S : Int → Bool) : cntN (v :: r) S = if S v = true then cntN r (fun y => if y = v then false else S y) + 1 else cntN r S := rfl
theorem cntN_nil (S : Int → Bool) : cntN [] S = 0 := rfl
set_option maxHeartbeats 1000000 in
set_option maxRecDepth 100000 in
theorem group_Most.calls (A0 : Option Addr) (c0 : Nat) (vs : List Int) (A1 : Option Addr) (n1 c1 : Nat) (A2 : Option Addr) (c2 : Nat) (ids : List Int) (w : World) (hr0 : Kd.C (Kd.int .u64) w A0 vs.length vs) (hr2 : Kd.C (Kd.int .u64) w A2 ids.length ids)
    (hok0 : ∀ x ∈ vs, okU x) (hok2 : ∀ x ∈ ids, okU x) :
    Calls Try.prog 25 #[.agg #[.slice A0 vs.length c0, .slice A1 n1 c1], .slice A2 ids.length c2] w fun e w' => e = .returned (.bool (decide ((cntN vs (inL ids) : Int) ≥ needI vs.length))) ∧ Below w.heap.size w w' := by
  have hmm := @run_makeMap Try.prog
  have HR0 := Aside0.mk hr0
  have HR2 := Aside0.mk hr2
  have HOK0 := Aside0.mk hok0
  have HOK2 := Aside0.mk hok2
  have HL0 : vs.length ≤ 9223372036854775807 := hr0.2.1
  have HL2 : ids.length ≤ 9223372036854775807 := hr2.2.1
  clear hr0 hr2 hok0 hok2
  go_enter Try.func25, Try.ntmps25
  go_wp2_with fail
  have n0 := blk_alloc (blk_new w (.cells #[.slice A0 vs.length c0, .slice A1 n1 c1] 35)) (.map #[] 0)
  have n1_ : Set62 ((w.alloc (.cells #[.slice A0 vs.length c0, .slice A1 n1 c1] 35)).alloc (.map #[] 0)) (w.heap.size + 1) 0 (inL (ids.take 0)) := by
    have h : Set62 ((w.alloc (.cells #[.slice A0 vs.length c0, .slice A1 n1 c1] 35)).alloc (.map #[] 0)) (w.alloc (.cells #[.slice A0 vs.length c0, .slice A1 n1 c1] 35)).heap.size 0 (fun _ => false) := MapB.made _
    rw [World.size_alloc] at h
    exact h
  have n2 : Below w.heap.size w ((w.alloc (.cells #[.slice A0 vs.length c0, .slice A1 n1 c1] 35)).alloc (.map #[] 0)) := below_alloc (below_alloc (Below.refl _ _) _) _
  have N0 := Aside0.mk n0
  have N1 := Aside0.mk n1_
  have N2 := Aside0.mk n2
  clear n0 n1_ n2 hmm
  go_loopg [7, 14] ids.length (fun g v7 v14 wr => ∃ i : Nat, v14 = .int .i64 (i : Int) ∧ Aside0 (i ≤ ids.length ∧ ids.length - i ≤ g) ∧ Aside0 (Set62 wr (w.heap.size + 1) i (inL (ids.take i))) ∧ Aside0 (wr.heap[w.heap.size]? = some (.cells #[.slice A0 vs.length c0, .slice A1 n1 c1] 35 (0, 0))) ∧ Aside0 (Below w.heap.size w wr))
  case atStart => exact ⟨0, rfl, ⟨by omega⟩, N1, N0, N2⟩
  case round =>
    clear N0 N1 N2
    obtain ⟨i, rfl, HI, HM, HT, HB⟩ := hrel
    by_cases hlt : (i : Int) < ids.length
    · have hltb := decide_eq_true hlt
      have hil : i < ids.length := by omega
      obtain ⟨ad, had, f0⟩ := Kd.at_int HR2.out (i : Int) (by omega) hlt
      cases had
      simp only [Int.toNat_natCast] at f0
      replace f0 := (HB.out.cell (World.block_lt_of_cell? w _ f0)).trans f0
      obtain ⟨x, hx⟩ : ∃ x, rd ids (i : Int) = x := ⟨_, rfl⟩
      have HX := Aside0.mk hx
      have HOKX := Aside0.mk (HOK2.out x (by rw [← hx, rdI_at ids i hil]; exact List.getElem_mem _))
      rw [hx] at f0
      clear hx
      go_wp2_with (first
        | (at_mapUpdate; obtain ⟨kl, hkl⟩ := key22 x HOKX.out; refine wpList_mapUpdate_B _ rfl _ _ _ 62 rfl 22 4 keyed22 (fun x y _ _ h => enc22_inj x y h) Try.underlying62 Try.underlying4 (w.heap.size + 1) i rfl HM.out ?hn x HOKX.out kl rfl true rfl hkl ?_; (case hn => (unfold maxLen; omega)); intro w3 hm3 hg3; have HM3 := Aside0.mk hm3; have HG3 := Aside0.mk hg3; clear hm3 hg3 hkl)
        | fail)
      go_roundg (gk - 1)
      case measure => have := HI.out; omega
      case rel =>
        refine ⟨i + 1, by go_num, ⟨by have := HI.out; omega⟩, ⟨?_⟩, ⟨blk_grown HT.out HG3.out (fun e => by have := Option.some.inj e; omega)⟩, ⟨Below.grown HB.out HG3.out HB.out.size (fun k hk => by cases hk; omega)⟩⟩
        have h := HM3.out
        rw [← HX.out, rdI_at ids i hil, inL_next ids i hil] at h
        exact h
    · have hltb := decide_eq_false hlt
      have hie : i = ids.length := by have := HI.out; omega
      have hm1 := HM.out
      rw [hie, List.take_length] at hm1
      have HM1 := Aside0.mk hm1
      have HT1 := Aside0.mk HT.out
      have HB1 := Aside0.mk HB.out
      have c0_ := blk_cell HT.out 0
      clear HM HT HB hm1
      go_wp2_with fail
      obtain ⟨wa, rfl⟩ : ∃ wo : World, wo = wr := ⟨_, rfl⟩
      clear hltb hlt c0_
      go_loopg [8, 10, 24] vs.length (fun g v8 v10 v24 ws => ∃ (j m : Nat) (S : Int → Bool), v24 = .int .i64 (j : Int) ∧ v8 = .int .i64 (m : Int) ∧ Aside0 (j ≤ vs.length ∧ vs.length - j ≤ g ∧ m ≤ j) ∧ Aside0 (cntN vs (inL ids) = m + cntN (vs.drop j) S) ∧ Aside0 (Set62 ws (w.heap.size + 1) ids.length S) ∧ Aside0 (ws.heap[w.heap.size]? = some (.cells #[.slice A0 vs.length c0, .slice A1 n1 c1] 35 (0, 0))) ∧ Aside0 (Below w.heap.size w ws))
      case atStart => exact ⟨0, 0, _, rfl, rfl, ⟨by omega⟩, ⟨by rw [List.drop_zero, Nat.zero_add]⟩, ⟨HM1.out⟩, ⟨HT1.out⟩, ⟨HB1.out⟩⟩
      case round =>
        clear HM1 HT1 HB1 HI hie
        obtain ⟨j, m, S, rfl, rfl, HI, HC, HM, HT, HB⟩ := hrel
        by_cases hlt : (j : Int) < vs.length
        · have hltb := decide_eq_true hlt
          have hil : j < vs.length := by omega
          obtain ⟨ad, had, f0⟩ := Kd.at_int HR0.out (j : Int) (by omega) hlt
          cases had
          simp only [Int.toNat_natCast] at f0
          replace f0 := (HB.out.cell (World.block_lt_of_cell? w _ f0)).trans f0
          obtain ⟨x, hx⟩ : ∃ x, rd vs (j : Int) = x := ⟨_, rfl⟩
          have HX := Aside0.mk hx
          have HOKX := Aside0.mk (HOK0.out x (by rw [← hx, rdI_at vs j hil]; exact List.getElem_mem _))
          rw [hx] at f0
          have hc := HC.out
          rw [List.drop_eq_getElem_cons hil, ← rdI_at vs j hil, hx] at hc
          clear hx HC
          rw [cntN_cons] at hc
          have hlk := look62 HM.out x HOKX.out
          cases hS : S x with
          | true =>
            rw [hS] at hlk hc
            rw [if_pos rfl] at hc
            have HC := Aside0.mk hc
            clear hc hS
            go_wp2_with (first
              | (at_delete; obtain ⟨kl, hkl⟩ := key22 x HOKX.out; refine wpList_delete_B _ rfl _ _ 62 22 4 rfl keyed22 (fun x y _ _ h => enc22_inj x y h) Try.underlying62 (w.heap.size + 1) ids.length rfl HM.out x HOKX.out kl rfl hkl ?_; intro w3 hm3 hg3; have HM3 := Aside0.mk hm3; have HG3 := Aside0.mk hg3; clear hm3 hg3 hkl)
              | fail)
            go_roundg (gk - 1)
            case measure => have := HI.out; omega
            case rel =>
              exact ⟨j + 1, m + 1, (fun y => if y = x then false else S y), by go_num, by rw [show wrap64 ((m : Int) + 1) = ((m + 1 : Nat) : Int) from by have := HI.out; simp [wrap64]; omega], ⟨by have := HI.out; omega⟩, ⟨by have := HC.out; omega⟩, HM3, ⟨blk_grown HT.out HG3.out (fun e => by have := Option.some.inj e; omega)⟩, ⟨Below.grown HB.out HG3.out HB.out.size (fun k hk => by cases hk; omega)⟩⟩
          | false =>
            rw [hS] at hlk hc
            rw [if_neg (by decide)] at hc
            have HC := Aside0.mk hc
            clear hc hS
            go_wp2_with fail
            go_roundg (gk - 1)
            case measure => have := HI.out; omega
            case rel => exact ⟨j + 1, m, S, by go_num, rfl, ⟨by have := HI.out; omega⟩, HC, HM, HT, HB⟩
        · have hltb := decide_eq_false hlt
          have hje : j = vs.length := by have := HI.out; omega
          have hc := HC.out
          rw [hje, List.drop_length] at hc
          rw [cntN_nil] at hc
          have c0_ := blk_cell HT.out 0
          have c1_ := blk_cell HT.out 1
          have hc2 : (cntN vs (inL ids) : Int) = (m : Int) := by omega
          have HC2 := Aside0.mk hc2
          clear hc hc2
          go_wp2_with (go_at_call 26; refine (need_calls A1 n1 c1 A0 vs.length c0 _).mono ?_; rintro e w1 ⟨rfl, hb⟩; have HB2 := Aside0.mk (below_call HB.out hb); clear hb)
          go_ret
          exact ⟨by rw [HC2.out]; rfl, HB2.out⟩
end Go.Proofs.Ytbjeoaklpcbocaa.Pr
