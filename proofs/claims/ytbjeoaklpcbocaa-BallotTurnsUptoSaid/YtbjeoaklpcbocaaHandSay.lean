/- ballot.Say: what it computes, and that it does; slices.ContainsFunc, slices.Clone at voices. Conditions: none. -/
import Derived.Test.YtbjeoaklpcbocaaPr0
import Derived.Test.YtbjeoaklpcbocaaHnd
import Derived.Deep.RegionLaw
namespace Go.Proofs.Ytbjeoaklpcbocaa.Pr
open Go.RowKit Go.Proofs.YtbjeoaklpcbocaaW.PrintWords Go.Proofs.YtbjeoaklpcbocaaW.PrintLast Go.Proofs.YtbjeoaklpcbocaaW.PrintMore
open Go.Proofs.Ytbjeoaklpcbocaa.Hnd
attribute [local go_sem] setCell_drewN_ alloc_drewN_
set_option linter.unusedVariables false
set_option linter.unusedSimpArgs false
/-- The place of the first of which p holds; -1: there is none. -/
def idxN (p : S46 → Bool) : List S46 → Nat → Int
  | [], _ => -1
  | x :: r, i => if p x = true then (i : Int) else idxN p r (i + 1)
theorem rd_at (l : List S46) (i : Nat) (h : i < l.length) : rd_T46 l (i : Int) = l[i] := by simp [rd_T46, List.getD_eq_getElem?_getD, h]
theorem idxN_at (p : S46 → Bool) (l : List S46) (i : Nat) (h : i < l.length) : idxN p (l.drop i) i = if p (rd_T46 l (i : Int)) = true then (i : Int) else idxN p (l.drop (i + 1)) (i + 1) := by
  rw [List.drop_eq_getElem_cons h, rd_at l i h]
  rfl
theorem rd_mem (l : List S46) (i : Nat) (h : i < l.length) : rd_T46 l (i : Int) ∈ l := by
  rw [rd_at l i h]
  exact List.getElem_mem _
set_option maxHeartbeats 1000000 in
set_option maxRecDepth 100000 in
theorem idx_22 (A : Option Addr) (c : Nat) (l : List S46) (p : S46 → Bool) (b0 : Nat) (J : World → Prop) (w : World) (hr : Kd.C k46 w A l.length l) (hc : l.length ≤ c) (hJ : J w)
    (HJ : ∀ W W' : World, J W → Below W.heap.size W W' → J W') (HP : ∀ (x : S46) (W : World), x ∈ l → J W → Calls Try.prog 22 #[.agg #[.int .u64 x.f0, .bool x.f1], .pointer (some ⟨b0, 0, none⟩)] W fun e w' => e = .returned (.bool (p x)) ∧ Below W.heap.size W w') :
    Calls Try.prog 27 #[.slice A l.length c, .func (.func 22) #[] #[.pointer (some ⟨b0, 0, none⟩)]] w fun e w' => e = .returned (.int .i64 (idxN p l 0)) ∧ Below w.heap.size w w' ∧ J w' := by
  have HR := Aside0.mk hr
  have HL : l.length ≤ 9223372036854775807 := hr.2.1
  have HJ0 := Aside0.mk hJ
  have HP0 := Aside0.mk HP
  have HJ1 := Aside0.mk HJ
  clear hr hJ HP HJ
  go_enter Try.func27, Try.ntmps27
  go_wp2_with fail
  go_loopg [5, 8] l.length (fun g v5 v8 wr => ∃ (i : Nat), v8 = .int .i64 (i : Int) ∧ Aside0 (i ≤ l.length ∧ l.length - i ≤ g) ∧ Aside0 (idxN p l 0 = idxN p (l.drop i) i) ∧ Aside0 (J wr) ∧ Aside0 (Below w.heap.size w wr))
  case atStart => exact ⟨0, rfl, ⟨by omega⟩, ⟨rfl⟩, HJ0, ⟨Below.refl _ _⟩⟩
  case round =>
    clear HJ0
    obtain ⟨i, rfl, HI, HT, HK, HB⟩ := hrel
    by_cases hlt : (i : Int) < l.length
    · have hltb := decide_eq_true hlt
      obtain ⟨ad, rfl, e0, e1⟩ := at_T46 HR.out (i : Int) (by omega) hlt
      simp only [Int.toNat_natCast] at e0 e1
      replace e0 := (HB.out.cell (World.block_lt_of_cell? w _ e0)).trans e0
      replace e1 := (HB.out.cell (World.block_lt_of_cell? w _ e1)).trans e1
      obtain ⟨x, hx⟩ : ∃ x, rd_T46 l (i : Int) = x := ⟨_, rfl⟩
      have HX := Aside0.mk hx
      have HM := Aside0.mk (hx ▸ rd_mem l i (by omega))
      rw [hx] at e0 e1
      clear hx
      have hix := HT.out
      rw [idxN_at p l i (by omega), HX.out] at hix
      have HT2 := Aside0.mk hix
      clear hix HT
      cases hp : p x with
      | true =>
        have HQ := Aside0.mk hp
        clear hp
        go_wp2_with (go_at_call 22; refine (HP0.out x _ HM.out HK.out).mono ?_; rintro e w1 ⟨rfl, hb⟩; rw [HQ.out]; have HB1 := Aside0.mk (below_call HB.out hb); have HK1 := Aside0.mk (HJ1.out _ _ HK.out hb); clear hb)
        go_ret
        exact ⟨by rw [HT2.out, if_pos HQ.out]; rfl, HB1.out, HK1.out⟩
      | false =>
        have HQ := Aside0.mk hp
        clear hp
        go_wp2_with (go_at_call 22; refine (HP0.out x _ HM.out HK.out).mono ?_; rintro e w1 ⟨rfl, hb⟩; rw [HQ.out]; have HB1 := Aside0.mk (below_call HB.out hb); have HK1 := Aside0.mk (HJ1.out _ _ HK.out hb); clear hb)
        go_roundg (gk - 1)
        case measure => have := HI.out; omega
        case rel => exact ⟨i + 1, by go_num, ⟨by have := HI.out; omega⟩, ⟨by rw [HT2.out, if_neg (by rw [HQ.out]; decide)]⟩, HK1, HB1⟩
    · have hltb := decide_eq_false hlt
      go_wp2
      go_ret
      refine ⟨?_, HB.out, HK.out⟩
      have hie : i = l.length := by have := HI.out; omega
      rw [HT.out, hie, List.drop_length]
      rfl
set_option maxHeartbeats 1000000 in
set_option maxRecDepth 100000 in
theorem cf_22 (A : Option Addr) (c : Nat) (l : List S46) (p : S46 → Bool) (b0 : Nat) (J : World → Prop) (w : World) (hr : Kd.C k46 w A l.length l) (hc : l.length ≤ c) (hJ : J w) (HJ : ∀ W W' : World, J W → Below W.heap.size W W' → J W')
    (HP : ∀ (x : S46) (W : World), x ∈ l → J W → Calls Try.prog 22 #[.agg #[.int .u64 x.f0, .bool x.f1], .pointer (some ⟨b0, 0, none⟩)] W fun e w' => e = .returned (.bool (p x)) ∧ Below W.heap.size W w') :
    Calls Try.prog 21 #[.slice A l.length c, .func (.func 22) #[] #[.pointer (some ⟨b0, 0, none⟩)]] w fun e w' => e = .returned (.bool (decide (0 ≤ idxN p l 0))) ∧ Below w.heap.size w w' ∧ J w' := by
  have H := Aside0.mk (idx_22 A c l p b0 J w hr hc hJ HJ HP)
  clear hr hJ HJ HP
  go_enter Try.func21, Try.ntmps21
  go_wp2_with fail
  refine H.out.mono ?_
  rintro e w1 ⟨rfl, hb, hj⟩
  go_wp2
  go_ret
  exact ⟨rfl, hb, hj⟩
theorem nil_eqV (A : Option Addr) (n c : Nat) (w : World) : (binOp .eql 44 (.slice A n c) (.slice none 0 0)).run Try.prog w = .ok (.bool A.isNone) w := by
  cases A <;> kernel_rfl
attribute [local go_sem high] nil_eqV
theorem nil_of_C {α : Type} {d : Kd α} {w : World} {l : List α} (h : Kd.C d w none l.length l) : l = [] := by
  by_cases hz : 0 < l.length
  · obtain ⟨ad, ha, _⟩ := h.2.2 hz
    cases ha
  · exact List.eq_nil_of_length_eq_zero (by omega)
set_option maxHeartbeats 1000000 in
set_option maxRecDepth 100000 in
theorem cloneV (A0 : Option Addr) (c0 : Nat) (l0 : List S46) (w : World) (hs : l0.length < 8796093022208) (hr0 : Kd.C k46 w A0 l0.length l0) :
    Calls Try.prog 23 #[.slice A0 l0.length c0] w fun e w' => ∃ v0_ : Value, e = .returned (v0_) ∧ Kd.R k46 46 w' w.heap.size (fun _ => True) v0_ l0 ∧ Below w.heap.size w w' := by
  have HS := Aside0.mk hs
  have HR := Aside0.mk hr0
  cases A0 with
  | none =>
    obtain rfl := nil_of_C hr0
    clear hr0 hs
    go_enter Try.func23, Try.ntmps23
    go_wp2
    go_ret
    exact ⟨_, rfl, Kd.R_nil _ _ _ _ _, Below.refl _ _⟩
  | some ad =>
    clear hr0 hs
    go_enter Try.func23, Try.ntmps23
    go_wp2_with (first
      | ((with_reducible refine gate_dst (N := 5) rfl ?_); refine Kd.R_lit k46 (w0 := w) w.heap.size 46 ?hg (N := 5) ?hd (xs := ([] : List S46)) (inner := []) (ok := fun _ => True) (okp := fun _ => True) ?hr ?hp (fun _ hk => hk) trivial (Below.refl _ _) (Nat.le_refl _) (by simp) ?_; (case hd => rfl); (case hg => rfl); (case hr => first | (go_simp; done) | (go_simp; rfl)); (case hp => exact (Reps.none _ _)); intro v1 w1 ho hb hg_ hnew_; have HO := Aside0.mk ho; have HB := Aside0.mk hb; clear ho hb hg_ hnew_)
      | ((with_reducible refine gate_builtin (b := .append) (xs := #[.tmp 5, .tmp 6]) rfl ?_); (try (refine gate_guard (by rfl) ?_; dsimp only)); at_builtin; refine Kd.R_append_rows k46 (w0 := w) w.heap.size rfl (.tmp 5) (.tmp 6) 44 46 (.agg #[.int .u64 0, .bool false]) 16 rfl Try.underlying44 info46 rfl (by decide) (by omega) _ ([] : List S46) l0 _ _ _ (fun _ => True) (fun _ => False) rfl rfl ?aO ?aR (fun _ _ h => h) (fun _ h => h.elim) (fun _ _ => trivial) ?aB ?aS ?aL ?_; (case aR => exact Kd.C_below HR.out HB.out); (case aB => exact HB.out); (case aO => exact HO.out); (case aS => exact HB.out.size); (case aL => have := HS.out; simp only [List.length_nil]; omega); intro v2 w2 ho hb hg hat; have HO2 := Aside0.mk ho; have HB2 := Aside0.mk hb; clear ho hb hg hat))
    go_ret
    exact ⟨_, rfl, HO2.out, HB2.out⟩
theorem litV (w : World) (x : S46) : Kd.C k46 (w.alloc (.cells #[.int .u64 x.f0, .bool x.f1] 46)) (some ⟨w.heap.size, 0, none⟩) ([x] : List S46).length [x] := by
  have b := blk_new w (.cells #[.int .u64 x.f0, .bool x.f1] 46)
  refine ⟨rfl, by simp, fun _ => ⟨_, rfl, fun j p hj => ?_⟩⟩
  have hcell : ∀ i, (w.alloc (.cells #[.int .u64 x.f0, .bool x.f1] 46)).cell? ⟨w.heap.size, i, none⟩ = (#[Value.int .u64 x.f0, .bool x.f1] : Array Value)[i]? := fun i => blk_cell b i
  match j, hj with
  | 0, hj =>
    obtain rfl := Option.some.inj hj
    exact ⟨[.int .u64 x.f0, .bool x.f1], rfl, k46_mk _ x, fun i u hu => by
      match i, hu with
      | 0, hu => obtain rfl := Option.some.inj hu; exact hcell 0
      | 1, hu => obtain rfl := Option.some.inj hu; exact hcell 1⟩
def sameId (i : Int) (x : S46) : Bool := x.f0 == i
set_option maxHeartbeats 1000000 in
theorem cl22 (x : S46) (i : Int) (y : Bool) (bv : Nat) (w : World) (hv : w.heap[bv]? = some (.cells #[.int .u64 i, .bool y] 46 (0, 0))) :
    Calls Try.prog 22 #[.agg #[.int .u64 x.f0, .bool x.f1], .pointer (some ⟨bv, 0, none⟩)] w fun e w' => e = .returned (.bool (sameId i x)) ∧ Below w.heap.size w w' := by
  have v0 := blk_cell hv 0
  have z1 := blk_lt hv
  clear hv
  go_enter Try.func22, Try.ntmps22
  go_wp2
  go_ret
  exact ⟨rfl, below_alloc (Below.refl _ _) _⟩
def ballot_Say.f (l0 : List S46) (a1_0 : Int) (a1_1 : Bool) : Option (List S46) := if l0.length < 8796093022207 then some (if 0 ≤ idxN (sameId a1_0) l0 0 then l0 else l0 ++ [⟨a1_0, a1_1⟩]) else none
set_option maxHeartbeats 1000000 in
set_option maxRecDepth 100000 in
theorem ballot_Say.calls (A0 : Option Addr) (c0 : Nat) (l0 : List S46) (a1_0 : Int) (a1_1 : Bool) (r : List S46) (w : World) (hr0 : Kd.C k46 w A0 l0.length l0) (hc0 : l0.length ≤ c0) (h : ballot_Say.f l0 a1_0 a1_1 = some r) :
    Calls Try.prog 14 #[.slice A0 l0.length c0, .agg #[.int .u64 a1_0, .bool a1_1]] w fun e w' => ∃ v0_ : Value, e = .returned (v0_) ∧ Kd.R k46 46 w' w.heap.size (fun _ => True) v0_ r ∧ Below w.heap.size w w' := by
  unfold ballot_Say.f at h
  by_cases hs : l0.length < 8796093022207
  rotate_left
  · rw [if_neg hs] at h; cases h
  rw [if_pos hs] at h
  have h := Option.some.inj h
  have HS := Aside0.mk hs
  have HR := Aside0.mk hr0
  have HH := Aside0.mk h
  have b0 := blk_new w (.cells #[.int .u64 a1_0, .bool a1_1] 46)
  have HCF := Aside0.mk (cf_22 A0 c0 l0 (sameId a1_0) w.heap.size (fun W => W.heap[w.heap.size]? = some (.cells #[.int .u64 a1_0, .bool a1_1] 46 (0, 0))) (w.alloc (.cells #[.int .u64 a1_0, .bool a1_1] 46)) (Kd.C_alloc hr0 _) hc0 b0 (fun W W' h hb => blk_below h hb) (fun x W _ h => cl22 x a1_0 a1_1 w.heap.size W h))
  clear h hs hr0 b0
  go_enter Try.func14, Try.ntmps14
  go_wp2_with fail
  refine HCF.out.mono ?_
  rintro e w1 ⟨rfl, hb, hj⟩
  have HB1 := Aside0.mk (below_call (below_alloc (Below.refl w.heap.size w) _) hb)
  have BJ := Aside0.mk hj
  have v0 := blk_cell hj 0
  have v1 := blk_cell hj 1
  clear hb hj
  by_cases hi : 0 ≤ idxN (sameId a1_0) l0 0
  · have hib := decide_eq_true hi
    have e0 := HH.out
    rw [if_pos hi] at e0
    subst e0
    go_wp2_with fail
    refine (cloneV A0 c0 l0 w1 (by have := HS.out; omega) (Kd.C_below HR.out HB1.out)).mono ?_
    rintro e w2 ⟨v, rfl, ho, hb⟩
    have HO := Aside0.mk (Kd.R_lower ho HB1.out.size)
    have HB2 := Aside0.mk (below_call HB1.out hb)
    clear ho hb v0 v1
    go_wp2
    go_ret
    exact ⟨_, rfl, HO.out, HB2.out⟩
  · have hib := decide_eq_false hi
    have e0 := HH.out
    rw [if_neg hi] at e0
    subst e0
    have hs2 : l0.length < 8796093022208 := by have := HS.out; omega
    have HRC := Aside0.mk (Kd.C_drew (Kd.C_below HR.out HB1.out))
    go_wp2_with fail
    go_region_law (first
      | (refine goes_ Try.func23 (by kernel_rfl) rfl #[.slice A0 l0.length c0] (by rfl) rfl rfl (by (try simp only [List.map_toArray, List.map_cons, List.map_nil]); first | done | rfl) ?_; refine (cloneV A0 c0 l0 _ hs2 ?hc).mono ?_; (case hc => first | exact HRC.out | exact Kd.C_alloc HRC.out _); rintro e w4 ⟨v4, rfl, ho, hb⟩; refine ⟨_, rfl, ?_⟩; have HO := Aside0.mk (Kd.R_lower (base' := w1.drew.heap.size) ho (by simp)); have HB5 := Aside0.mk hb; have HB4 : Aside0 (Below w1.drew.heap.size w1.drew w4) := ⟨by first | exact hb | exact below_call (below_alloc (Below.refl _ _) _) hb⟩; have BJ4 := blk_below (blk_drew BJ.out) HB4.out; have u0 := blk_cell BJ4 0; have u1 := blk_cell BJ4 1; clear BJ4; clear ho hb)
      | (refine Kd.R_append_rows_step k46 (w0 := w1.drew) w1.drew.heap.size (by rfl) (.tmp 11) (.tmp 13) 44 46 (.agg #[.int .u64 0, .bool false]) 16 rfl Try.underlying44 info46 rfl (by decide) (by omega) v4 l0 ([⟨a1_0, a1_1⟩] : List S46) _ _ _ (fun _ => True) (fun _ => False) rfl rfl ?aO ?aR (fun _ _ h => h) (fun _ h => h.elim) (fun _ _ => trivial) ?aB ?aS ?aL ?_; (case aO => first | exact HO.out | exact Kd.R_alloc HO.out _); (case aB => first | exact HB4.out | exact below_alloc HB4.out _); (case aS => first | exact HB4.out.size | exact (below_alloc HB4.out _).size); (case aL => first | omega | (simp only [List.length_singleton]; omega)); (case aR => first | exact litV _ ⟨a1_0, a1_1⟩ | exact Kd.C_below (litV w1.drew ⟨a1_0, a1_1⟩) HB5.out); intro v5 w5 ho hb hg hat; have HO6 := Aside0.mk ho; have HB6 := Aside0.mk hb; clear ho hb hg hat))
    all_goals (try go_wp2)
    all_goals go_ret
    all_goals exact ⟨_, rfl, Kd.R_lower HO6.out HB1.out.size, below_call HB1.out.drew HB6.out⟩
end Go.Proofs.Ytbjeoaklpcbocaa.Pr
