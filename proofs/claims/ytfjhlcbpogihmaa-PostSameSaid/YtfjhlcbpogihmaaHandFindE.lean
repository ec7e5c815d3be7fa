/- slices.IndexFunc, slices.ContainsFunc at entries: what they compute, and that they do. Conditions: none. -/
import Derived.Test.YtfjhlcbpogihmaaPr0
import Derived.Test.YtfjhlcbpogihmaaHnd
namespace Go.Proofs.Ytfjhlcbpogihmaa.Pr
open Go.RowKit Go.Proofs.YtfjhlcbpogihmaaW.PrintWords Go.Proofs.YtfjhlcbpogihmaaW.PrintLast Go.Proofs.YtfjhlcbpogihmaaW.PrintMore
open Go.Proofs.Ytfjhlcbpogihmaa.Hnd
attribute [local go_sem] setCell_drewN_ alloc_drewN_
set_option linter.unusedVariables false
set_option linter.unusedSimpArgs false
/-- The place of the first of which p holds; -1: there is none. -/
def idxN (p : S75 → Bool) : List S75 → Nat → Int
  | [], _ => -1
  | x :: r, i => if p x = true then (i : Int) else idxN p r (i + 1)
theorem rd_at (l : List S75) (i : Nat) (h : i < l.length) : rd_T75 l (i : Int) = l[i] := by simp [rd_T75, List.getD_eq_getElem?_getD, h]
theorem idxN_at (p : S75 → Bool) (l : List S75) (i : Nat) (h : i < l.length) : idxN p (l.drop i) i = if p (rd_T75 l (i : Int)) = true then (i : Int) else idxN p (l.drop (i + 1)) (i + 1) := by
  rw [List.drop_eq_getElem_cons h, rd_at l i h]
  rfl
theorem rd_mem (l : List S75) (i : Nat) (h : i < l.length) : rd_T75 l (i : Int) ∈ l := by
  rw [rd_at l i h]
  exact List.getElem_mem _
set_option maxHeartbeats 1000000 in
set_option maxRecDepth 100000 in
theorem idx_65 (A : Option Addr) (c : Nat) (l : List S75) (p : S75 → Bool) (J : World → Prop) (w : World) (hr : Kd.C k75 w A l.length l) (hc : l.length ≤ c) (hJ : J w)
    (HJ : ∀ W W' : World, J W → Below W.heap.size W W' → J W') (HP : ∀ (x : S75) (W : World), x ∈ l → J W → Calls Try.prog 65 #[.agg #[.int .u64 x.f0, .string x.f1]] W fun e w' => e = .returned (.bool (p x)) ∧ Below W.heap.size W w') :
    Calls Try.prog 90 #[.slice A l.length c, .func (.func 65) #[] #[]] w fun e w' => e = .returned (.int .i64 (idxN p l 0)) ∧ Below w.heap.size w w' ∧ J w' := by
  have HR := Aside0.mk hr
  have HL : l.length ≤ 9223372036854775807 := hr.2.1
  have HJ0 := Aside0.mk hJ
  have HP0 := Aside0.mk HP
  have HJ1 := Aside0.mk HJ
  clear hr hJ HP HJ
  go_enter Try.func90, Try.ntmps90
  go_wp2_with fail
  go_loopg [5, 8] l.length (fun g v5 v8 wr => ∃ (i : Nat), v8 = .int .i64 (i : Int) ∧ Aside0 (i ≤ l.length ∧ l.length - i ≤ g) ∧ Aside0 (idxN p l 0 = idxN p (l.drop i) i) ∧ Aside0 (J wr) ∧ Aside0 (Below w.heap.size w wr))
  case atStart => exact ⟨0, rfl, ⟨by omega⟩, ⟨rfl⟩, HJ0, ⟨Below.refl _ _⟩⟩
  case round =>
    clear HJ0
    obtain ⟨i, rfl, HI, HT, HK, HB⟩ := hrel
    by_cases hlt : (i : Int) < l.length
    · have hltb := decide_eq_true hlt
      obtain ⟨ad, rfl, e0, e1⟩ := at_T75 HR.out (i : Int) (by omega) hlt
      simp only [Int.toNat_natCast] at e0 e1
      replace e0 := (HB.out.cell (World.block_lt_of_cell? w _ e0)).trans e0
      replace e1 := (HB.out.cell (World.block_lt_of_cell? w _ e1)).trans e1
      obtain ⟨x, hx⟩ : ∃ x, rd_T75 l (i : Int) = x := ⟨_, rfl⟩
      have HX := Aside0.mk hx
      have HM := Aside0.mk (hx ▸ rd_mem l i (by omega))
      rw [hx] at e0 e1
      clear hx
      have hix := HT.out
      rw [idxN_at p l i (by omega), HX.out] at hix
      have HT2 := Aside0.mk hix
      clear hix HT
      cases hp : p x with
      | true =>
        have HQ := Aside0.mk hp
        clear hp
        go_wp2_with (go_at_call 65; refine (HP0.out x _ HM.out HK.out).mono ?_; rintro e w1 ⟨rfl, hb⟩; rw [HQ.out]; have HB1 := Aside0.mk (below_call HB.out hb); have HK1 := Aside0.mk (HJ1.out _ _ HK.out hb); clear hb)
        go_ret
        exact ⟨by rw [HT2.out, if_pos HQ.out]; rfl, HB1.out, HK1.out⟩
      | false =>
        have HQ := Aside0.mk hp
        clear hp
        go_wp2_with (go_at_call 65; refine (HP0.out x _ HM.out HK.out).mono ?_; rintro e w1 ⟨rfl, hb⟩; rw [HQ.out]; have HB1 := Aside0.mk (below_call HB.out hb); have HK1 := Aside0.mk (HJ1.out _ _ HK.out hb); clear hb)
        go_roundg (gk - 1)
        case measure => have := HI.out; omega
        case rel => exact ⟨i + 1, by go_num, ⟨by have := HI.out; omega⟩, ⟨by rw [HT2.out, if_neg (by rw [HQ.out]; decide)]⟩, HK1, HB1⟩
    · have hltb := decide_eq_false hlt
      go_wp2
      go_ret
      refine ⟨?_, HB.out, HK.out⟩
      have hie : i = l.length := by have := HI.out; omega
      rw [HT.out, hie, List.drop_length]
      rfl
def oddE (x : S75) : Bool := decide (x.f0 > 4611686018427387903) || decide ((x.f1.size : Int) > 4096)
set_option maxHeartbeats 1000000 in
set_option maxRecDepth 100000 in
theorem cl65 (x : S75) (w : World) : Calls Try.prog 65 #[.agg #[.int .u64 x.f0, .string x.f1]] w fun e w' => e = .returned (.bool (oddE x)) ∧ Below w.heap.size w w' := by
  obtain ⟨x0, x1⟩ := x
  unfold oddE
  dsimp only
  by_cases h : x0 > 4611686018427387903
  · have hb := decide_eq_true h
    have hc : decide (4611686018427387903 < x0) = true := hb
    clear h
    go_enter Try.func65, Try.ntmps65
    go_wp2
    go_ret
    exact ⟨by simp [hb], below_alloc (Below.refl _ _) _⟩
  · have hb := decide_eq_false h
    have hc : decide (4611686018427387903 < x0) = false := hb
    clear h
    go_enter Try.func65, Try.ntmps65
    go_wp2
    go_ret
    exact ⟨by simp [hb], below_alloc (Below.refl _ _) _⟩
theorem idx_any (p : S75 → Bool) : ∀ (l : List S75) (i : Nat), decide (0 ≤ idxN p l i) = l.any p
  | [], i => by simp [idxN]
  | x :: r, i => by
    unfold idxN
    rw [List.any_cons]
    by_cases h : p x = true
    · rw [if_pos h, h]; simp
    · rw [if_neg h, idx_any p r (i + 1)]
      simp [h]
set_option maxHeartbeats 1000000 in
set_option maxRecDepth 100000 in
theorem contains_calls (A : Option Addr) (c : Nat) (l : List S75) (w : World) (hr : Kd.C k75 w A l.length l) (hc : l.length ≤ c) :
    Calls Try.prog 66 #[.slice A l.length c, .func (.func 65) #[] #[]] w fun e w' => e = .returned (.bool (l.any oddE)) ∧ Below w.heap.size w w' := by
  have H := Aside0.mk (idx_65 A c l oddE (fun _ => True) w hr hc trivial (fun _ _ _ _ => trivial) (fun x W _ _ => cl65 x W))
  clear hr
  go_enter Try.func66, Try.ntmps66
  go_wp2_with fail
  refine H.out.mono ?_
  rintro e w1 ⟨rfl, hb, -⟩
  go_wp2
  go_ret
  refine ⟨?_, hb⟩
  rw [← idx_any oddE l 0]
  rfl
end Go.Proofs.Ytfjhlcbpogihmaa.Pr
