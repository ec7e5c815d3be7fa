/- meet: what it answers. Conditions: none. -/
import Derived.Deep.RegionHeld3
import Derived.Deep.DeepCutAuto
import Derived.Test.YtbadlkhelhomjaaPr0
import Derived.Test.YtbadlkhelhomjaaHnd
import Derived.Test.YtbadlkhelhomjaaMapB
namespace Go.Proofs.Ytbadlkhelhomjaa.Pr
open Go.RowKit Go.Proofs.YtbadlkhelhomjaaW.PrintWords Go.Proofs.YtbadlkhelhomjaaW.PrintLast Go.Proofs.YtbadlkhelhomjaaW.PrintMore
open Go.Proofs.Ytbadlkhelhomjaa.Hnd
attribute [local go_sem] setCell_drewN_ alloc_drewN_
set_option linter.unusedVariables false
set_option linter.unusedSimpArgs false
/-- The place of the first of which p holds; -1: there is none. -/
def idxN (p : S40 → Bool) : List S40 → Nat → Int
  | [], _ => -1
  | x :: r, i => if p x = true then (i : Int) else idxN p r (i + 1)
theorem rd_at (l : List S40) (i : Nat) (h : i < l.length) : rd_T40 l (i : Int) = l[i] := by simp [rd_T40, List.getD_eq_getElem?_getD, h]
theorem idxN_at (p : S40 → Bool) (l : List S40) (i : Nat) (h : i < l.length) : idxN p (l.drop i) i = if p (rd_T40 l (i : Int)) = true then (i : Int) else idxN p (l.drop (i + 1)) (i + 1) := by
  rw [List.drop_eq_getElem_cons h, rd_at l i h]
  rfl
theorem rd_mem (l : List S40) (i : Nat) (h : i < l.length) : rd_T40 l (i : Int) ∈ l := by
  rw [rd_at l i h]
  exact List.getElem_mem _
set_option maxHeartbeats 1000000 in
set_option maxRecDepth 100000 in
theorem idx_23 (A : Option Addr) (c : Nat) (l : List S40) (p : S40 → Bool) (b0 b1 : Nat) (J : World → Prop) (w : World) (hr : Kd.C k40 w A l.length l) (hc : l.length ≤ c) (hJ : J w)
    (HJ : ∀ W W' : World, J W → Below W.heap.size W W' → J W') (HP : ∀ (x : S40) (W : World), x ∈ l → J W → Calls Try.prog 23 #[.agg #[.int .u64 x.f0, .string x.f1, .int .u64 x.f2], .pointer (some ⟨b0, 0, none⟩), .pointer (some ⟨b1, 0, none⟩)] W fun e w' => e = .returned (.bool (p x)) ∧ Below W.heap.size W w') :
    Calls Try.prog 25 #[.slice A l.length c, .func (.func 23) #[] #[.pointer (some ⟨b0, 0, none⟩), .pointer (some ⟨b1, 0, none⟩)]] w fun e w' => e = .returned (.int .i64 (idxN p l 0)) ∧ Below w.heap.size w w' ∧ J w' := by
  have HR := Aside0.mk hr
  have HL : l.length ≤ 9223372036854775807 := hr.2.1
  have HJ0 := Aside0.mk hJ
  have HP0 := Aside0.mk HP
  have HJ1 := Aside0.mk HJ
  clear hr hJ HP HJ
  go_enter Try.func25, Try.ntmps25
  go_wp2_with fail
  go_loopg [5, 8] l.length (fun g v5 v8 wr => ∃ (i : Nat), v8 = .int .i64 (i : Int) ∧ Aside0 (i ≤ l.length ∧ l.length - i ≤ g) ∧ Aside0 (idxN p l 0 = idxN p (l.drop i) i) ∧ Aside0 (J wr) ∧ Aside0 (Below w.heap.size w wr))
  case atStart => exact ⟨0, rfl, ⟨by omega⟩, ⟨rfl⟩, HJ0, ⟨Below.refl _ _⟩⟩
  case round =>
    clear HJ0
    obtain ⟨i, rfl, HI, HT, HK, HB⟩ := hrel
    by_cases hlt : (i : Int) < l.length
    · have hltb := decide_eq_true hlt
      obtain ⟨ad, rfl, e0, e1, e2⟩ := at_T40 HR.out (i : Int) (by omega) hlt
      simp only [Int.toNat_natCast] at e0 e1 e2
      replace e0 := (HB.out.cell (World.block_lt_of_cell? w _ e0)).trans e0
      replace e1 := (HB.out.cell (World.block_lt_of_cell? w _ e1)).trans e1
      replace e2 := (HB.out.cell (World.block_lt_of_cell? w _ e2)).trans e2
      obtain ⟨x, hx⟩ : ∃ x, rd_T40 l (i : Int) = x := ⟨_, rfl⟩
      have HX := Aside0.mk hx
      have HM := Aside0.mk (hx ▸ rd_mem l i (by omega))
      rw [hx] at e0 e1 e2
      clear hx
      have hix := HT.out
      rw [idxN_at p l i (by omega), HX.out] at hix
      have HT2 := Aside0.mk hix
      clear hix HT
      cases hp : p x with
      | true =>
        have HQ := Aside0.mk hp
        clear hp
        go_wp2_with (go_at_call 23; refine (HP0.out x _ HM.out HK.out).mono ?_; rintro e w1 ⟨rfl, hb⟩; rw [HQ.out]; have HB1 := Aside0.mk (below_call HB.out hb); have HK1 := Aside0.mk (HJ1.out _ _ HK.out hb); clear hb)
        go_ret
        exact ⟨by rw [HT2.out, if_pos HQ.out]; rfl, HB1.out, HK1.out⟩
      | false =>
        have HQ := Aside0.mk hp
        clear hp
        go_wp2_with (go_at_call 23; refine (HP0.out x _ HM.out HK.out).mono ?_; rintro e w1 ⟨rfl, hb⟩; rw [HQ.out]; have HB1 := Aside0.mk (below_call HB.out hb); have HK1 := Aside0.mk (HJ1.out _ _ HK.out hb); clear hb)
        go_roundg (gk - 1)
        case measure => have := HI.out; omega
        case rel => exact ⟨i + 1, by go_num, ⟨by have := HI.out; omega⟩, ⟨by rw [HT2.out, if_neg (by rw [HQ.out]; decide)]⟩, HK1, HB1⟩
    · have hltb := decide_eq_false hlt
      go_wp2
      go_ret
      refine ⟨?_, HB.out, HK.out⟩
      have hie : i = l.length := by have := HI.out; omega
      rw [HT.out, hie, List.drop_length]
      rfl
set_option maxHeartbeats 1000000 in
set_option maxRecDepth 100000 in
theorem idx_22 (A : Option Addr) (c : Nat) (l : List S40) (p : S40 → Bool) (b0 b1 : Nat) (J : World → Prop) (w : World) (hr : Kd.C k40 w A l.length l) (hc : l.length ≤ c) (hJ : J w)
    (HJ : ∀ W W' : World, J W → Below W.heap.size W W' → J W') (HP : ∀ (x : S40) (W : World), x ∈ l → J W → Calls Try.prog 22 #[.agg #[.int .u64 x.f0, .string x.f1, .int .u64 x.f2], .pointer (some ⟨b0, 0, none⟩), .pointer (some ⟨b1, 0, none⟩)] W fun e w' => e = .returned (.bool (p x)) ∧ Below W.heap.size W w') :
    Calls Try.prog 25 #[.slice A l.length c, .func (.func 22) #[] #[.pointer (some ⟨b0, 0, none⟩), .pointer (some ⟨b1, 0, none⟩)]] w fun e w' => e = .returned (.int .i64 (idxN p l 0)) ∧ Below w.heap.size w w' ∧ J w' := by
  have HR := Aside0.mk hr
  have HL : l.length ≤ 9223372036854775807 := hr.2.1
  have HJ0 := Aside0.mk hJ
  have HP0 := Aside0.mk HP
  have HJ1 := Aside0.mk HJ
  clear hr hJ HP HJ
  go_enter Try.func25, Try.ntmps25
  go_wp2_with fail
  go_loopg [5, 8] l.length (fun g v5 v8 wr => ∃ (i : Nat), v8 = .int .i64 (i : Int) ∧ Aside0 (i ≤ l.length ∧ l.length - i ≤ g) ∧ Aside0 (idxN p l 0 = idxN p (l.drop i) i) ∧ Aside0 (J wr) ∧ Aside0 (Below w.heap.size w wr))
  case atStart => exact ⟨0, rfl, ⟨by omega⟩, ⟨rfl⟩, HJ0, ⟨Below.refl _ _⟩⟩
  case round =>
    clear HJ0
    obtain ⟨i, rfl, HI, HT, HK, HB⟩ := hrel
    by_cases hlt : (i : Int) < l.length
    · have hltb := decide_eq_true hlt
      obtain ⟨ad, rfl, e0, e1, e2⟩ := at_T40 HR.out (i : Int) (by omega) hlt
      simp only [Int.toNat_natCast] at e0 e1 e2
      replace e0 := (HB.out.cell (World.block_lt_of_cell? w _ e0)).trans e0
      replace e1 := (HB.out.cell (World.block_lt_of_cell? w _ e1)).trans e1
      replace e2 := (HB.out.cell (World.block_lt_of_cell? w _ e2)).trans e2
      obtain ⟨x, hx⟩ : ∃ x, rd_T40 l (i : Int) = x := ⟨_, rfl⟩
      have HX := Aside0.mk hx
      have HM := Aside0.mk (hx ▸ rd_mem l i (by omega))
      rw [hx] at e0 e1 e2
      clear hx
      have hix := HT.out
      rw [idxN_at p l i (by omega), HX.out] at hix
      have HT2 := Aside0.mk hix
      clear hix HT
      cases hp : p x with
      | true =>
        have HQ := Aside0.mk hp
        clear hp
        go_wp2_with (go_at_call 22; refine (HP0.out x _ HM.out HK.out).mono ?_; rintro e w1 ⟨rfl, hb⟩; rw [HQ.out]; have HB1 := Aside0.mk (below_call HB.out hb); have HK1 := Aside0.mk (HJ1.out _ _ HK.out hb); clear hb)
        go_ret
        exact ⟨by rw [HT2.out, if_pos HQ.out]; rfl, HB1.out, HK1.out⟩
      | false =>
        have HQ := Aside0.mk hp
        clear hp
        go_wp2_with (go_at_call 22; refine (HP0.out x _ HM.out HK.out).mono ?_; rintro e w1 ⟨rfl, hb⟩; rw [HQ.out]; have HB1 := Aside0.mk (below_call HB.out hb); have HK1 := Aside0.mk (HJ1.out _ _ HK.out hb); clear hb)
        go_roundg (gk - 1)
        case measure => have := HI.out; omega
        case rel => exact ⟨i + 1, by go_num, ⟨by have := HI.out; omega⟩, ⟨by rw [HT2.out, if_neg (by rw [HQ.out]; decide)]⟩, HK1, HB1⟩
    · have hltb := decide_eq_false hlt
      go_wp2
      go_ret
      refine ⟨?_, HB.out, HK.out⟩
      have hie : i = l.length := by have := HI.out; omega
      rw [HT.out, hie, List.drop_length]
      rfl
theorem blk_below' {b : Nat} {o : Obj} {W w1 : World} (hb : Below W.heap.size W w1) (h : W.heap[b]? = some o) : w1.heap[b]? = some o := blk_below h hb
theorem below_call' {w W w1 : World} (hb : Below W.heap.size W w1) (h : Below w.heap.size w W) : Below w.heap.size w w1 := below_call h hb
theorem below_drew' {w W : World} (h : Below w.heap.size w W) : Below w.heap.size w W.drew := below_drew1 h
theorem blk_newAt {W : World} {o : Obj} (n : Nat) (hn : W.heap.size = n) : (W.alloc o).heap[n]? = some o := hn ▸ blk_new W o
def plB (x y : S40) : Bool := x.f0 == y.f0 && x.f1.toList == y.f1.toList
theorem eqS50 (d : Nat) (w : World) (x0 y0 : Int) (x1 y1 : ByteArray) :
    (Op.equalIn (d + 2) 50 (.agg #[.int .u64 x0, .string x1]) (.agg #[.int .u64 y0, .string y1])).run Try.prog w = .ok (x0 == y0 && (x1.toList == y1.toList)) w := by
  refine eqA_of Try.underlying50 (by kernel_rfl) ?_
  refine eqf_cons (by rfl) (by go_simp; rfl) (by go_simp; rfl) (by go_simp) ?_
  exact eqf_last (by rfl) (by go_simp; rfl) (by go_simp; rfl) (by go_simp)
attribute [local go_sem high] eqS50
theorem most_17 (x y : Int) (w : World) : Calls Try.prog 17 #[.int .u64 x, .int .u64 y] w fun e w' => e = .returned (.bool (decide (x ≤ y))) ∧ Below w.heap.size w w' := by
  go_enter Try.func17, Try.ntmps17
  go_wp2
  go_ret
  exact ⟨rfl, Below.refl _ _⟩
theorem less_18 (x y : Int) (w : World) : Calls Try.prog 18 #[.int .u64 x, .int .u64 y] w fun e w' => e = .returned (.bool (decide (x < y))) ∧ Below w.heap.size w w' := by
  go_enter Try.func18, Try.ntmps18
  go_wp2
  go_ret
  exact ⟨rfl, Below.refl _ _⟩
set_option maxHeartbeats 1000000 in
theorem of_24 (x : S40) (w : World) : Calls Try.prog 24 #[.agg #[.int .u64 x.f0, .string x.f1, .int .u64 x.f2]] w fun e w' => e = .returned (.agg #[.int .u64 x.f0, .string x.f1]) ∧ Below w.heap.size w w' := by
  go_enter Try.func24, Try.ntmps24
  go_wp2
  refine bodyPost_ret (v := .agg #[.int .u64 x.f0, .string x.f1]) (by simp [results, Try.results24, go_sem]) rfl ?_
  exact ⟨rfl, by repeat (first | exact Below.refl _ _ | refine below_set ?_ (by simp) | apply below_alloc | apply pw_below_drewN)⟩
theorem any_idx (p : S40 → Bool) (l : List S40) : ∀ i : Nat, decide (idxN p l i ≥ 0) = l.any p := by
  induction l with
  | nil => intro i; rfl
  | cons x r ih =>
    intro i
    unfold idxN
    rw [List.any_cons]
    cases hp : p x with
    | true => simp
    | false => simpa using ih (i + 1)
set_option maxHeartbeats 1000000 in
theorem cont_23 (A : Option Addr) (c : Nat) (l : List S40) (p : S40 → Bool) (b0 b1 : Nat) (J : World → Prop) (w : World) (hr : Kd.C k40 w A l.length l) (hc : l.length ≤ c) (hJ : J w)
    (HJ : ∀ W W' : World, J W → Below W.heap.size W W' → J W') (HP : ∀ (x : S40) (W : World), x ∈ l → J W → Calls Try.prog 23 #[.agg #[.int .u64 x.f0, .string x.f1, .int .u64 x.f2], .pointer (some ⟨b0, 0, none⟩), .pointer (some ⟨b1, 0, none⟩)] W fun e w' => e = .returned (.bool (p x)) ∧ Below W.heap.size W w') :
    Calls Try.prog 21 #[.slice A l.length c, .func (.func 23) #[] #[.pointer (some ⟨b0, 0, none⟩), .pointer (some ⟨b1, 0, none⟩)]] w fun e w' => e = .returned (.bool (l.any p)) ∧ Below w.heap.size w w' := by
  have H := Aside0.mk (idx_23 A c l p b0 b1 J w hr hc hJ HJ HP)
  rw [← any_idx p l 0]
  clear hr hJ HJ HP
  go_enter Try.func21, Try.ntmps21
  go_wp2_with fail
  refine H.out.mono ?_
  rintro e w1 ⟨rfl, hb, _⟩
  have HB := Aside0.mk hb
  clear hb H
  go_wp2
  go_ret
  exact ⟨rfl, HB.out⟩
set_option maxHeartbeats 1000000 in
theorem cont_22 (A : Option Addr) (c : Nat) (l : List S40) (p : S40 → Bool) (b0 b1 : Nat) (J : World → Prop) (w : World) (hr : Kd.C k40 w A l.length l) (hc : l.length ≤ c) (hJ : J w)
    (HJ : ∀ W W' : World, J W → Below W.heap.size W W' → J W') (HP : ∀ (x : S40) (W : World), x ∈ l → J W → Calls Try.prog 22 #[.agg #[.int .u64 x.f0, .string x.f1, .int .u64 x.f2], .pointer (some ⟨b0, 0, none⟩), .pointer (some ⟨b1, 0, none⟩)] W fun e w' => e = .returned (.bool (p x)) ∧ Below W.heap.size W w') :
    Calls Try.prog 21 #[.slice A l.length c, .func (.func 22) #[] #[.pointer (some ⟨b0, 0, none⟩), .pointer (some ⟨b1, 0, none⟩)]] w fun e w' => e = .returned (.bool (l.any p)) ∧ Below w.heap.size w w' := by
  have H := Aside0.mk (idx_22 A c l p b0 b1 J w hr hc hJ HJ HP)
  rw [← any_idx p l 0]
  clear hr hJ HJ HP
  go_enter Try.func21, Try.ntmps21
  go_wp2_with fail
  refine H.out.mono ?_
  rintro e w1 ⟨rfl, hb, _⟩
  have HB := Aside0.mk hb
  clear hb H
  go_wp2
  go_ret
  exact ⟨rfl, HB.out⟩
def pM17 (x y : S40) : Bool := plB x y && decide (x.f2 ≤ y.f2)
theorem skeep_17 {x y : S40} {bx bh : Nat} {w W W1 : World} (h : W.cell? ⟨bx, 0, none⟩ = some (.int .u64 x.f0) ∧ W.cell? ⟨bx, 1, none⟩ = some (.string x.f1) ∧ W.cell? ⟨bx, 2, none⟩ = some (.int .u64 x.f2) ∧ W.cell? ⟨w.heap.size, 0, none⟩ = some (.int .u64 y.f0) ∧ W.cell? ⟨w.heap.size, 1, none⟩ = some (.string y.f1) ∧ W.cell? ⟨w.heap.size, 2, none⟩ = some (.int .u64 y.f2) ∧ W.cell? ⟨bh, 0, none⟩ = some (.func (.func 17) #[] #[]) ∧ Below w.heap.size w W) (hb : Below W.heap.size W W1) : W1.cell? ⟨bx, 0, none⟩ = some (.int .u64 x.f0) ∧ W1.cell? ⟨bx, 1, none⟩ = some (.string x.f1) ∧ W1.cell? ⟨bx, 2, none⟩ = some (.int .u64 x.f2) ∧ W1.cell? ⟨w.heap.size, 0, none⟩ = some (.int .u64 y.f0) ∧ W1.cell? ⟨w.heap.size, 1, none⟩ = some (.string y.f1) ∧ W1.cell? ⟨w.heap.size, 2, none⟩ = some (.int .u64 y.f2) ∧ W1.cell? ⟨bh, 0, none⟩ = some (.func (.func 17) #[] #[]) ∧ Below w.heap.size w W1 :=
  have c : ∀ {b o : Nat} {v : Value}, W.cell? ⟨b, o, none⟩ = some v → W1.cell? ⟨b, o, none⟩ = some v := fun {b o v} e => (hb.cell (World.block_lt_of_cell? W _ e)).trans e
  ⟨c h.1, c h.2.1, c h.2.2.1, c h.2.2.2.1, c h.2.2.2.2.1, c h.2.2.2.2.2.1, c h.2.2.2.2.2.2.1, below_call h.2.2.2.2.2.2.2 hb⟩
theorem skeepB_17 {x y : S40} {bx bh : Nat} {w W : World} (h : W.cell? ⟨bx, 0, none⟩ = some (.int .u64 x.f0) ∧ W.cell? ⟨bx, 1, none⟩ = some (.string x.f1) ∧ W.cell? ⟨bx, 2, none⟩ = some (.int .u64 x.f2) ∧ W.cell? ⟨w.heap.size, 0, none⟩ = some (.int .u64 y.f0) ∧ W.cell? ⟨w.heap.size, 1, none⟩ = some (.string y.f1) ∧ W.cell? ⟨w.heap.size, 2, none⟩ = some (.int .u64 y.f2) ∧ W.cell? ⟨bh, 0, none⟩ = some (.func (.func 17) #[] #[]) ∧ Below w.heap.size w W) : Below w.heap.size w W := h.2.2.2.2.2.2.2
theorem skeep0_17 {x y : S40} {bx bh : Nat} {w : World} (hx : w.heap[bx]? = some (.cells #[.int .u64 x.f0, .string x.f1, .int .u64 x.f2] 40 (0, 0))) (hh : w.heap[bh]? = some (.cells #[.func (.func 17) #[] #[]] 43 (0, 0))) : (w.alloc (.cells #[.int .u64 y.f0, .string y.f1, .int .u64 y.f2] 40)).drew.cell? ⟨bx, 0, none⟩ = some (.int .u64 x.f0) ∧ (w.alloc (.cells #[.int .u64 y.f0, .string y.f1, .int .u64 y.f2] 40)).drew.cell? ⟨bx, 1, none⟩ = some (.string x.f1) ∧ (w.alloc (.cells #[.int .u64 y.f0, .string y.f1, .int .u64 y.f2] 40)).drew.cell? ⟨bx, 2, none⟩ = some (.int .u64 x.f2) ∧ (w.alloc (.cells #[.int .u64 y.f0, .string y.f1, .int .u64 y.f2] 40)).drew.cell? ⟨w.heap.size, 0, none⟩ = some (.int .u64 y.f0) ∧ (w.alloc (.cells #[.int .u64 y.f0, .string y.f1, .int .u64 y.f2] 40)).drew.cell? ⟨w.heap.size, 1, none⟩ = some (.string y.f1) ∧ (w.alloc (.cells #[.int .u64 y.f0, .string y.f1, .int .u64 y.f2] 40)).drew.cell? ⟨w.heap.size, 2, none⟩ = some (.int .u64 y.f2) ∧ (w.alloc (.cells #[.int .u64 y.f0, .string y.f1, .int .u64 y.f2] 40)).drew.cell? ⟨bh, 0, none⟩ = some (.func (.func 17) #[] #[]) ∧ Below w.heap.size w (w.alloc (.cells #[.int .u64 y.f0, .string y.f1, .int .u64 y.f2] 40)).drew :=
  have hx := blk_alloc hx (.cells #[.int .u64 y.f0, .string y.f1, .int .u64 y.f2] 40)
  have hh := blk_alloc hh (.cells #[.int .u64 y.f0, .string y.f1, .int .u64 y.f2] 40)
  have hy := blk_new w (.cells #[.int .u64 y.f0, .string y.f1, .int .u64 y.f2] 40)
  ⟨blk_cell hx 0, blk_cell hx 1, blk_cell hx 2, blk_cell hy 0, blk_cell hy 1, blk_cell hy 2, blk_cell hh 0, pw_below_drewN (below_alloc (Below.refl _ _) _) 1⟩
set_option maxHeartbeats 4000000 in
theorem cl23_17 (x y : S40) (bx bh : Nat) (w : World) (hx : w.heap[bx]? = some (.cells #[.int .u64 x.f0, .string x.f1, .int .u64 x.f2] 40 (0, 0))) (hh : w.heap[bh]? = some (.cells #[.func (.func 17) #[] #[]] 43 (0, 0))) :
    Calls Try.prog 23 #[.agg #[.int .u64 y.f0, .string y.f1, .int .u64 y.f2], .pointer (some ⟨bx, 0, none⟩), .pointer (some ⟨bh, 0, none⟩)] w fun e w' => e = .returned (.bool (pM17 x y)) ∧ Below w.heap.size w w' := by
  have HS0 := Aside0.mk (skeep0_17 (y := y) hx hh)
  clear hx hh
  cases hp : plB x y with
  | false =>
    have HP := Aside0.mk (show pM17 x y = false by unfold pM17; rw [hp]; rfl)
    have hp' : (x.f0 == y.f0 && x.f1.toList == y.f1.toList) = false := hp
    rw [HP.out]
    go_enter Try.func23, Try.ntmps23
    go_wp2_with fail
    refine wp_region_held_drew (S := fun W' => W'.cell? ⟨bx, 0, none⟩ = some (.int .u64 x.f0) ∧ W'.cell? ⟨bx, 1, none⟩ = some (.string x.f1) ∧ W'.cell? ⟨bx, 2, none⟩ = some (.int .u64 x.f2) ∧ W'.cell? ⟨w.heap.size, 0, none⟩ = some (.int .u64 y.f0) ∧ W'.cell? ⟨w.heap.size, 1, none⟩ = some (.string y.f1) ∧ W'.cell? ⟨w.heap.size, 2, none⟩ = some (.int .u64 y.f2) ∧ W'.cell? ⟨bh, 0, none⟩ = some (.func (.func 17) #[] #[]) ∧ Below w.heap.size w W') (by kernel_rfl) HS0.out (fun hHeld => ?_)
    refine wpAnyH_take (i := 0) (oi := { dst := some 5, op := Op.load 40 (Operand.tmp 1), type := 40, pos := "serial.go:22", after := #[], guard := none }) (v := .agg #[.int .u64 x.f0, .string x.f1, .int .u64 x.f2]) rfl (by kernel_rfl) (by kernel_rfl) (by kernel_rfl) (fun _ _ _ h => h) (Or.inl ⟨by rfl, ?_⟩) (by assumption) ?_
    · intro w hSw
      try dsimp only at hSw
      go_simp
      try with_reducible rfl
    try simp only [Act.put, List.setIfInBounds_toArray, List.set_cons_zero, List.set_cons_succ]
    refine wpAnyH_take (i := 2) (oi := { dst := some 7, op := Op.load 40 (Operand.tmp 3), type := 40, pos := "serial.go:22", after := #[], guard := none }) (v := .agg #[.int .u64 y.f0, .string y.f1, .int .u64 y.f2]) rfl (by kernel_rfl) (by kernel_rfl) (by kernel_rfl) (fun _ _ _ h => h) (Or.inl ⟨by rfl, ?_⟩) (by assumption) ?_
    · intro w hSw
      try dsimp only at hSw
      go_simp
      try with_reducible rfl
    try simp only [Act.put, List.setIfInBounds_toArray, List.set_cons_zero, List.set_cons_succ]
    refine wpAnyH_ready (rs := [1]) (by kernel_rfl) (by simp) ?_
    refine AllReadyH.cons (o := { dst := some 6, op := Op.call { callee := Callee.value (Operand.func 24), args := #[Operand.tmp 5], argTypes := #[40] }, type := 50, pos := "serial.go:22", after := #[{ on := 0, ground := Ground.data }], guard := none }) rfl (fun K hK => ?_) AllReadyH.nil
    go_simp
    refine (of_24 x _).mono ?_
    rintro e w1 ⟨rfl, hb⟩
    go_wp2_with fail
    refine hK.out _ _ ?_ (fun hHeld => ?_)
    · exact skeep_17 hHeld hb
    clear hK K
    try simp only [Act.put, List.setIfInBounds_toArray, List.set_cons_zero, List.set_cons_succ]
    refine wpAnyH_ready (rs := [3]) (by kernel_rfl) (by simp) ?_
    refine AllReadyH.cons (o := { dst := some 8, op := Op.call { callee := Callee.value (Operand.func 24), args := #[Operand.tmp 7], argTypes := #[40] }, type := 50, pos := "serial.go:22", after := #[{ on := 2, ground := Ground.data }, { on := 1, ground := Ground.chain }], guard := none }) rfl (fun K hK => ?_) AllReadyH.nil
    go_simp
    refine (of_24 y _).mono ?_
    rintro e w2 ⟨rfl, hb2⟩
    go_wp2_with fail
    refine hK.out _ _ ?_ (fun hHeld => ?_)
    · exact skeep_17 hHeld hb2
    clear hK K
    try simp only [Act.put, List.setIfInBounds_toArray, List.set_cons_zero, List.set_cons_succ]
    refine wpAnyH_take (i := 4) (oi := { dst := some 9, op := Op.binOp BinOp.eql 50 (Operand.tmp 6) (Operand.tmp 8) 50, type := 4, pos := "serial.go:22", after := #[{ on := 1, ground := Ground.data }, { on := 3, ground := Ground.data }], guard := none }) (v := .bool false) rfl (by kernel_rfl) (by kernel_rfl) (by kernel_rfl) (fun _ _ _ h => h) (Or.inl ⟨by rfl, ?_⟩) (by assumption) ?_
    · intro w hSw
      try dsimp only at hSw
      go_simp
      try with_reducible rfl
    try simp only [Act.put, List.setIfInBounds_toArray, List.set_cons_zero, List.set_cons_succ]
    refine wpAnyH_take (i := 5) (oi := { dst := some 10, op := Op.move (Operand.tmp 9), type := 4, pos := "serial.go:22", after := #[{ on := 4, ground := Ground.data }, { on := 3, ground := Ground.chain }], guard := none }) (v := .bool false) rfl (by kernel_rfl) (by kernel_rfl) (by kernel_rfl) (fun _ _ _ h => h) (Or.inl ⟨by rfl, ?_⟩) (by assumption) ?_
    · intro w hSw
      try dsimp only at hSw
      go_simp
      try with_reducible rfl
    try simp only [Act.put, List.setIfInBounds_toArray, List.set_cons_zero, List.set_cons_succ]
    refine wpAnyH_take (i := 6) (oi := { dst := some 11, op := Op.load 43 (Operand.tmp 2), type := 43, pos := "serial.go:22", after := #[{ on := 5, ground := Ground.guard }], guard := some (5, true) }) (v := undef) rfl (by kernel_rfl) (by kernel_rfl) (by kernel_rfl) (fun _ _ _ h => h) (Or.inr ⟨by rfl, rfl⟩) (by assumption) ?_
    try simp only [Act.put, List.setIfInBounds_toArray, List.set_cons_zero, List.set_cons_succ]
    refine wpAnyH_take (i := 7) (oi := { dst := some 12, op := Op.fieldAddr 40 (Operand.tmp 1) 2, type := 0, pos := "serial.go:22", after := #[{ on := 5, ground := Ground.guard }], guard := some (5, true) }) (v := undef) rfl (by kernel_rfl) (by kernel_rfl) (by kernel_rfl) (fun _ _ _ h => h) (Or.inr ⟨by rfl, rfl⟩) (by assumption) ?_
    try simp only [Act.put, List.setIfInBounds_toArray, List.set_cons_zero, List.set_cons_succ]
    refine wpAnyH_take (i := 8) (oi := { dst := some 13, op := Op.load 22 (Operand.tmp 12), type := 22, pos := "serial.go:22", after := #[{ on := 7, ground := Ground.data }, { on := 5, ground := Ground.guard }], guard := some (5, true) }) (v := undef) rfl (by kernel_rfl) (by kernel_rfl) (by kernel_rfl) (fun _ _ _ h => h) (Or.inr ⟨by rfl, rfl⟩) (by assumption) ?_
    try simp only [Act.put, List.setIfInBounds_toArray, List.set_cons_zero, List.set_cons_succ]
    refine wpAnyH_take (i := 9) (oi := { dst := some 14, op := Op.fieldAddr 40 (Operand.tmp 3) 2, type := 0, pos := "serial.go:22", after := #[{ on := 5, ground := Ground.guard }], guard := some (5, true) }) (v := undef) rfl (by kernel_rfl) (by kernel_rfl) (by kernel_rfl) (fun _ _ _ h => h) (Or.inr ⟨by rfl, rfl⟩) (by assumption) ?_
    try simp only [Act.put, List.setIfInBounds_toArray, List.set_cons_zero, List.set_cons_succ]
    refine wpAnyH_take (i := 10) (oi := { dst := some 15, op := Op.load 22 (Operand.tmp 14), type := 22, pos := "serial.go:22", after := #[{ on := 9, ground := Ground.data }, { on := 5, ground := Ground.guard }], guard := some (5, true) }) (v := undef) rfl (by kernel_rfl) (by kernel_rfl) (by kernel_rfl) (fun _ _ _ h => h) (Or.inr ⟨by rfl, rfl⟩) (by assumption) ?_
    try simp only [Act.put, List.setIfInBounds_toArray, List.set_cons_zero, List.set_cons_succ]
    refine wpAnyH_take (i := 11) (oi := { dst := some 16, op := Op.call { callee := Callee.value (Operand.tmp 11), args := #[Operand.tmp 13, Operand.tmp 15], argTypes := #[22, 22] }, type := 4, pos := "serial.go:22", after := #[{ on := 6, ground := Ground.data }, { on := 8, ground := Ground.data }, { on := 10, ground := Ground.data }, { on := 5, ground := Ground.chain }, { on := 5, ground := Ground.guard }], guard := some (5, true) }) (v := undef) rfl (by kernel_rfl) (by kernel_rfl) (by kernel_rfl) (fun _ _ _ h => h) (Or.inr ⟨by rfl, rfl⟩) (by assumption) ?_
    try simp only [Act.put, List.setIfInBounds_toArray, List.set_cons_zero, List.set_cons_succ]
    refine wpAnyH_take (i := 12) (oi := { dst := some 17, op := Op.pick (Operand.tmp 10) (Operand.tmp 16) (Operand.const (Value.bool false)), type := 4, pos := "serial.go:22", after := #[{ on := 5, ground := Ground.data }, { on := 11, ground := Ground.data }], guard := none }) (v := .bool false) rfl (by kernel_rfl) (by kernel_rfl) (by kernel_rfl) (fun _ _ _ h => h) (Or.inl ⟨by rfl, ?_⟩) (by assumption) ?_
    · intro w hSw
      try dsimp only at hSw
      go_simp
      try with_reducible rfl
    try simp only [Act.put, List.setIfInBounds_toArray, List.set_cons_zero, List.set_cons_succ]
    refine wpAnyH_take (i := 13) (oi := { dst := some 4, op := Op.assign (Operand.tmp 17), type := 4, pos := "serial.go:22", after := #[{ on := 12, ground := Ground.data }, { on := 11, ground := Ground.chain }, { on := 0, ground := Ground.phase }, { on := 1, ground := Ground.phase }, { on := 2, ground := Ground.phase }, { on := 3, ground := Ground.phase }, { on := 4, ground := Ground.phase }, { on := 5, ground := Ground.phase }, { on := 6, ground := Ground.phase }, { on := 7, ground := Ground.phase }, { on := 8, ground := Ground.phase }, { on := 9, ground := Ground.phase }, { on := 10, ground := Ground.phase }, { on := 11, ground := Ground.phase }, { on := 12, ground := Ground.phase }], guard := none }) (v := .bool false) rfl (by kernel_rfl) (by kernel_rfl) (by kernel_rfl) (fun _ _ _ h => h) (Or.inl ⟨by rfl, ?_⟩) (by assumption) ?_
    · intro w hSw
      try dsimp only at hSw
      go_simp
      try with_reducible rfl
    try simp only [Act.put, List.setIfInBounds_toArray, List.set_cons_zero, List.set_cons_succ]
    refine wpAnyH_done (by kernel_rfl) ?_ _
    go_wp2
    go_ret
    exact ⟨rfl, hHeld.2.2.2.2.2.2.2⟩
  | true =>
    have HP := Aside0.mk (show pM17 x y = decide (x.f2 ≤ y.f2) by unfold pM17; rw [hp]; rfl)
    have hp' : (x.f0 == y.f0 && x.f1.toList == y.f1.toList) = true := hp
    rw [HP.out]
    go_enter Try.func23, Try.ntmps23
    go_wp2_with fail
    (go_region_held3 (fun W' => W'.cell? ⟨bx, 0, none⟩ = some (.int .u64 x.f0) ∧ W'.cell? ⟨bx, 1, none⟩ = some (.string x.f1) ∧ W'.cell? ⟨bx, 2, none⟩ = some (.int .u64 x.f2) ∧ W'.cell? ⟨w.heap.size, 0, none⟩ = some (.int .u64 y.f0) ∧ W'.cell? ⟨w.heap.size, 1, none⟩ = some (.string y.f1) ∧ W'.cell? ⟨w.heap.size, 2, none⟩ = some (.int .u64 y.f2) ∧ W'.cell? ⟨bh, 0, none⟩ = some (.func (.func 17) #[] #[]) ∧ Below w.heap.size w W') (first | (refine skeep_17 ?_ hb; assumption) | (refine skeep_17 ?_ HB2.out; assumption) | (exact HS0.out) | go_keep)
     (first
      | (go_at_call 24; refine (of_24 x _).mono ?_; rintro e w1 ⟨rfl, hb⟩)
      | (go_at_call 24; refine (of_24 y _).mono ?_; rintro e w2 ⟨rfl, hb⟩)
      | (go_at_call 17; refine (most_17 _ _ _).mono ?_; rintro e w3 ⟨rfl, hb⟩)))
    have HE := Aside0.mk (skeepB_17 (x := x) (y := y) (bx := bx) (bh := bh) (w := w) (by assumption))
    go_wp2
    go_ret
    exact ⟨rfl, HE.out⟩

set_option maxHeartbeats 1000000 in
theorem cl22_17 (x : S40) (B : Option Addr) (cb : Nat) (lb : List S40) (bb bh : Nat) (w : World) (hb : w.heap[bb]? = some (.cells #[.slice B lb.length cb] 25 (0, 0))) (hh : w.heap[bh]? = some (.cells #[.func (.func 17) #[] #[]] 43 (0, 0))) (hr : Kd.C k40 w B lb.length lb) (hc : lb.length ≤ cb) :
    Calls Try.prog 22 #[.agg #[.int .u64 x.f0, .string x.f1, .int .u64 x.f2], .pointer (some ⟨bb, 0, none⟩), .pointer (some ⟨bh, 0, none⟩)] w fun e w' => e = .returned (.bool (lb.any (pM17 x))) ∧ Below w.heap.size w w' := by
  have b0 := blk_cell hb 0
  have z1 := blk_lt hb
  have H := Aside0.mk (cont_23 B cb lb (pM17 x) w.heap.size bh (fun W => W.heap[w.heap.size]? = some (.cells #[.int .u64 x.f0, .string x.f1, .int .u64 x.f2] 40 (0, 0)) ∧ W.heap[bh]? = some (.cells #[.func (.func 17) #[] #[]] 43 (0, 0)))
    (w.alloc (.cells #[.int .u64 x.f0, .string x.f1, .int .u64 x.f2] 40)) (Kd.C_alloc hr _) hc ⟨blk_new _ _, blk_alloc hh _⟩ (fun W W' h hb => ⟨blk_below h.1 hb, blk_below h.2 hb⟩) (fun y W _ h => cl23_17 x y w.heap.size bh W h.1 h.2))
  clear hb hh hr
  go_enter Try.func22, Try.ntmps22
  go_wp2_with fail
  refine H.out.mono ?_
  rintro e w1 ⟨rfl, hb⟩
  have HB := Aside0.mk (below_call (below_alloc (Below.refl w.heap.size w) _) hb)
  clear hb H
  go_wp2
  go_ret
  exact ⟨rfl, HB.out⟩
def meet17 (la lb : List S40) : Bool := la.any fun x => lb.any (pM17 x)
set_option maxHeartbeats 1000000 in
theorem meet_17 (A : Option Addr) (ca : Nat) (la : List S40) (B : Option Addr) (cb : Nat) (lb : List S40) (w : World) (hra : Kd.C k40 w A la.length la) (hca : la.length ≤ ca) (hrb : Kd.C k40 w B lb.length lb) (hcb : lb.length ≤ cb) :
    Calls Try.prog 19 #[.slice A la.length ca, .slice B lb.length cb, .func (.func 17) #[] #[]] w fun e w' => e = .returned (.bool (meet17 la lb)) ∧ Below w.heap.size w w' := by
  unfold meet17
  have H := Aside0.mk (cont_22 A ca la (fun x => lb.any (pM17 x)) w.heap.size (w.heap.size + 1) (fun W => W.heap[w.heap.size]? = some (.cells #[.slice B lb.length cb] 25 (0, 0)) ∧ W.heap[w.heap.size + 1]? = some (.cells #[.func (.func 17) #[] #[]] 43 (0, 0)) ∧ Kd.C k40 W B lb.length lb)
    ((w.alloc (.cells #[.slice B lb.length cb] 25)).alloc (.cells #[.func (.func 17) #[] #[]] 43)) (Kd.C_alloc (Kd.C_alloc hra _) _) hca ⟨blk_alloc (blk_new _ _) _, blk_newAt _ (by simp), Kd.C_alloc (Kd.C_alloc hrb _) _⟩ (fun W W' h hb => ⟨blk_below h.1 hb, blk_below h.2.1 hb, Kd.C_below h.2.2 hb⟩) (fun x W _ h => cl22_17 x B cb lb w.heap.size (w.heap.size + 1) W h.1 h.2.1 h.2.2 hcb))
  clear hra hrb
  go_enter Try.func19, Try.ntmps19
  go_wp2_with fail
  refine H.out.mono ?_
  rintro e w1 ⟨rfl, hb⟩
  have HB := Aside0.mk (below_call (below_alloc (below_alloc (Below.refl w.heap.size w) _) _) hb)
  clear hb H
  go_wp2
  go_ret
  exact ⟨rfl, HB.out⟩
def pM18 (x y : S40) : Bool := plB x y && decide (x.f2 < y.f2)
theorem skeep_18 {x y : S40} {bx bh : Nat} {w W W1 : World} (h : W.cell? ⟨bx, 0, none⟩ = some (.int .u64 x.f0) ∧ W.cell? ⟨bx, 1, none⟩ = some (.string x.f1) ∧ W.cell? ⟨bx, 2, none⟩ = some (.int .u64 x.f2) ∧ W.cell? ⟨w.heap.size, 0, none⟩ = some (.int .u64 y.f0) ∧ W.cell? ⟨w.heap.size, 1, none⟩ = some (.string y.f1) ∧ W.cell? ⟨w.heap.size, 2, none⟩ = some (.int .u64 y.f2) ∧ W.cell? ⟨bh, 0, none⟩ = some (.func (.func 18) #[] #[]) ∧ Below w.heap.size w W) (hb : Below W.heap.size W W1) : W1.cell? ⟨bx, 0, none⟩ = some (.int .u64 x.f0) ∧ W1.cell? ⟨bx, 1, none⟩ = some (.string x.f1) ∧ W1.cell? ⟨bx, 2, none⟩ = some (.int .u64 x.f2) ∧ W1.cell? ⟨w.heap.size, 0, none⟩ = some (.int .u64 y.f0) ∧ W1.cell? ⟨w.heap.size, 1, none⟩ = some (.string y.f1) ∧ W1.cell? ⟨w.heap.size, 2, none⟩ = some (.int .u64 y.f2) ∧ W1.cell? ⟨bh, 0, none⟩ = some (.func (.func 18) #[] #[]) ∧ Below w.heap.size w W1 :=
  have c : ∀ {b o : Nat} {v : Value}, W.cell? ⟨b, o, none⟩ = some v → W1.cell? ⟨b, o, none⟩ = some v := fun {b o v} e => (hb.cell (World.block_lt_of_cell? W _ e)).trans e
  ⟨c h.1, c h.2.1, c h.2.2.1, c h.2.2.2.1, c h.2.2.2.2.1, c h.2.2.2.2.2.1, c h.2.2.2.2.2.2.1, below_call h.2.2.2.2.2.2.2 hb⟩
theorem skeepB_18 {x y : S40} {bx bh : Nat} {w W : World} (h : W.cell? ⟨bx, 0, none⟩ = some (.int .u64 x.f0) ∧ W.cell? ⟨bx, 1, none⟩ = some (.string x.f1) ∧ W.cell? ⟨bx, 2, none⟩ = some (.int .u64 x.f2) ∧ W.cell? ⟨w.heap.size, 0, none⟩ = some (.int .u64 y.f0) ∧ W.cell? ⟨w.heap.size, 1, none⟩ = some (.string y.f1) ∧ W.cell? ⟨w.heap.size, 2, none⟩ = some (.int .u64 y.f2) ∧ W.cell? ⟨bh, 0, none⟩ = some (.func (.func 18) #[] #[]) ∧ Below w.heap.size w W) : Below w.heap.size w W := h.2.2.2.2.2.2.2
theorem skeep0_18 {x y : S40} {bx bh : Nat} {w : World} (hx : w.heap[bx]? = some (.cells #[.int .u64 x.f0, .string x.f1, .int .u64 x.f2] 40 (0, 0))) (hh : w.heap[bh]? = some (.cells #[.func (.func 18) #[] #[]] 43 (0, 0))) : (w.alloc (.cells #[.int .u64 y.f0, .string y.f1, .int .u64 y.f2] 40)).drew.cell? ⟨bx, 0, none⟩ = some (.int .u64 x.f0) ∧ (w.alloc (.cells #[.int .u64 y.f0, .string y.f1, .int .u64 y.f2] 40)).drew.cell? ⟨bx, 1, none⟩ = some (.string x.f1) ∧ (w.alloc (.cells #[.int .u64 y.f0, .string y.f1, .int .u64 y.f2] 40)).drew.cell? ⟨bx, 2, none⟩ = some (.int .u64 x.f2) ∧ (w.alloc (.cells #[.int .u64 y.f0, .string y.f1, .int .u64 y.f2] 40)).drew.cell? ⟨w.heap.size, 0, none⟩ = some (.int .u64 y.f0) ∧ (w.alloc (.cells #[.int .u64 y.f0, .string y.f1, .int .u64 y.f2] 40)).drew.cell? ⟨w.heap.size, 1, none⟩ = some (.string y.f1) ∧ (w.alloc (.cells #[.int .u64 y.f0, .string y.f1, .int .u64 y.f2] 40)).drew.cell? ⟨w.heap.size, 2, none⟩ = some (.int .u64 y.f2) ∧ (w.alloc (.cells #[.int .u64 y.f0, .string y.f1, .int .u64 y.f2] 40)).drew.cell? ⟨bh, 0, none⟩ = some (.func (.func 18) #[] #[]) ∧ Below w.heap.size w (w.alloc (.cells #[.int .u64 y.f0, .string y.f1, .int .u64 y.f2] 40)).drew :=
  have hx := blk_alloc hx (.cells #[.int .u64 y.f0, .string y.f1, .int .u64 y.f2] 40)
  have hh := blk_alloc hh (.cells #[.int .u64 y.f0, .string y.f1, .int .u64 y.f2] 40)
  have hy := blk_new w (.cells #[.int .u64 y.f0, .string y.f1, .int .u64 y.f2] 40)
  ⟨blk_cell hx 0, blk_cell hx 1, blk_cell hx 2, blk_cell hy 0, blk_cell hy 1, blk_cell hy 2, blk_cell hh 0, pw_below_drewN (below_alloc (Below.refl _ _) _) 1⟩
set_option maxHeartbeats 4000000 in
theorem cl23_18 (x y : S40) (bx bh : Nat) (w : World) (hx : w.heap[bx]? = some (.cells #[.int .u64 x.f0, .string x.f1, .int .u64 x.f2] 40 (0, 0))) (hh : w.heap[bh]? = some (.cells #[.func (.func 18) #[] #[]] 43 (0, 0))) :
    Calls Try.prog 23 #[.agg #[.int .u64 y.f0, .string y.f1, .int .u64 y.f2], .pointer (some ⟨bx, 0, none⟩), .pointer (some ⟨bh, 0, none⟩)] w fun e w' => e = .returned (.bool (pM18 x y)) ∧ Below w.heap.size w w' := by
  have HS0 := Aside0.mk (skeep0_18 (y := y) hx hh)
  clear hx hh
  cases hp : plB x y with
  | false =>
    have HP := Aside0.mk (show pM18 x y = false by unfold pM18; rw [hp]; rfl)
    have hp' : (x.f0 == y.f0 && x.f1.toList == y.f1.toList) = false := hp
    rw [HP.out]
    go_enter Try.func23, Try.ntmps23
    go_wp2_with fail
    refine wp_region_held_drew (S := fun W' => W'.cell? ⟨bx, 0, none⟩ = some (.int .u64 x.f0) ∧ W'.cell? ⟨bx, 1, none⟩ = some (.string x.f1) ∧ W'.cell? ⟨bx, 2, none⟩ = some (.int .u64 x.f2) ∧ W'.cell? ⟨w.heap.size, 0, none⟩ = some (.int .u64 y.f0) ∧ W'.cell? ⟨w.heap.size, 1, none⟩ = some (.string y.f1) ∧ W'.cell? ⟨w.heap.size, 2, none⟩ = some (.int .u64 y.f2) ∧ W'.cell? ⟨bh, 0, none⟩ = some (.func (.func 18) #[] #[]) ∧ Below w.heap.size w W') (by kernel_rfl) HS0.out (fun hHeld => ?_)
    refine wpAnyH_take (i := 0) (oi := { dst := some 5, op := Op.load 40 (Operand.tmp 1), type := 40, pos := "serial.go:22", after := #[], guard := none }) (v := .agg #[.int .u64 x.f0, .string x.f1, .int .u64 x.f2]) rfl (by kernel_rfl) (by kernel_rfl) (by kernel_rfl) (fun _ _ _ h => h) (Or.inl ⟨by rfl, ?_⟩) (by assumption) ?_
    · intro w hSw
      try dsimp only at hSw
      go_simp
      try with_reducible rfl
    try simp only [Act.put, List.setIfInBounds_toArray, List.set_cons_zero, List.set_cons_succ]
    refine wpAnyH_take (i := 2) (oi := { dst := some 7, op := Op.load 40 (Operand.tmp 3), type := 40, pos := "serial.go:22", after := #[], guard := none }) (v := .agg #[.int .u64 y.f0, .string y.f1, .int .u64 y.f2]) rfl (by kernel_rfl) (by kernel_rfl) (by kernel_rfl) (fun _ _ _ h => h) (Or.inl ⟨by rfl, ?_⟩) (by assumption) ?_
    · intro w hSw
      try dsimp only at hSw
      go_simp
      try with_reducible rfl
    try simp only [Act.put, List.setIfInBounds_toArray, List.set_cons_zero, List.set_cons_succ]
    refine wpAnyH_ready (rs := [1]) (by kernel_rfl) (by simp) ?_
    refine AllReadyH.cons (o := { dst := some 6, op := Op.call { callee := Callee.value (Operand.func 24), args := #[Operand.tmp 5], argTypes := #[40] }, type := 50, pos := "serial.go:22", after := #[{ on := 0, ground := Ground.data }], guard := none }) rfl (fun K hK => ?_) AllReadyH.nil
    go_simp
    refine (of_24 x _).mono ?_
    rintro e w1 ⟨rfl, hb⟩
    go_wp2_with fail
    refine hK.out _ _ ?_ (fun hHeld => ?_)
    · exact skeep_18 hHeld hb
    clear hK K
    try simp only [Act.put, List.setIfInBounds_toArray, List.set_cons_zero, List.set_cons_succ]
    refine wpAnyH_ready (rs := [3]) (by kernel_rfl) (by simp) ?_
    refine AllReadyH.cons (o := { dst := some 8, op := Op.call { callee := Callee.value (Operand.func 24), args := #[Operand.tmp 7], argTypes := #[40] }, type := 50, pos := "serial.go:22", after := #[{ on := 2, ground := Ground.data }, { on := 1, ground := Ground.chain }], guard := none }) rfl (fun K hK => ?_) AllReadyH.nil
    go_simp
    refine (of_24 y _).mono ?_
    rintro e w2 ⟨rfl, hb2⟩
    go_wp2_with fail
    refine hK.out _ _ ?_ (fun hHeld => ?_)
    · exact skeep_18 hHeld hb2
    clear hK K
    try simp only [Act.put, List.setIfInBounds_toArray, List.set_cons_zero, List.set_cons_succ]
    refine wpAnyH_take (i := 4) (oi := { dst := some 9, op := Op.binOp BinOp.eql 50 (Operand.tmp 6) (Operand.tmp 8) 50, type := 4, pos := "serial.go:22", after := #[{ on := 1, ground := Ground.data }, { on := 3, ground := Ground.data }], guard := none }) (v := .bool false) rfl (by kernel_rfl) (by kernel_rfl) (by kernel_rfl) (fun _ _ _ h => h) (Or.inl ⟨by rfl, ?_⟩) (by assumption) ?_
    · intro w hSw
      try dsimp only at hSw
      go_simp
      try with_reducible rfl
    try simp only [Act.put, List.setIfInBounds_toArray, List.set_cons_zero, List.set_cons_succ]
    refine wpAnyH_take (i := 5) (oi := { dst := some 10, op := Op.move (Operand.tmp 9), type := 4, pos := "serial.go:22", after := #[{ on := 4, ground := Ground.data }, { on := 3, ground := Ground.chain }], guard := none }) (v := .bool false) rfl (by kernel_rfl) (by kernel_rfl) (by kernel_rfl) (fun _ _ _ h => h) (Or.inl ⟨by rfl, ?_⟩) (by assumption) ?_
    · intro w hSw
      try dsimp only at hSw
      go_simp
      try with_reducible rfl
    try simp only [Act.put, List.setIfInBounds_toArray, List.set_cons_zero, List.set_cons_succ]
    refine wpAnyH_take (i := 6) (oi := { dst := some 11, op := Op.load 43 (Operand.tmp 2), type := 43, pos := "serial.go:22", after := #[{ on := 5, ground := Ground.guard }], guard := some (5, true) }) (v := undef) rfl (by kernel_rfl) (by kernel_rfl) (by kernel_rfl) (fun _ _ _ h => h) (Or.inr ⟨by rfl, rfl⟩) (by assumption) ?_
    try simp only [Act.put, List.setIfInBounds_toArray, List.set_cons_zero, List.set_cons_succ]
    refine wpAnyH_take (i := 7) (oi := { dst := some 12, op := Op.fieldAddr 40 (Operand.tmp 1) 2, type := 0, pos := "serial.go:22", after := #[{ on := 5, ground := Ground.guard }], guard := some (5, true) }) (v := undef) rfl (by kernel_rfl) (by kernel_rfl) (by kernel_rfl) (fun _ _ _ h => h) (Or.inr ⟨by rfl, rfl⟩) (by assumption) ?_
    try simp only [Act.put, List.setIfInBounds_toArray, List.set_cons_zero, List.set_cons_succ]
    refine wpAnyH_take (i := 8) (oi := { dst := some 13, op := Op.load 22 (Operand.tmp 12), type := 22, pos := "serial.go:22", after := #[{ on := 7, ground := Ground.data }, { on := 5, ground := Ground.guard }], guard := some (5, true) }) (v := undef) rfl (by kernel_rfl) (by kernel_rfl) (by kernel_rfl) (fun _ _ _ h => h) (Or.inr ⟨by rfl, rfl⟩) (by assumption) ?_
    try simp only [Act.put, List.setIfInBounds_toArray, List.set_cons_zero, List.set_cons_succ]
    refine wpAnyH_take (i := 9) (oi := { dst := some 14, op := Op.fieldAddr 40 (Operand.tmp 3) 2, type := 0, pos := "serial.go:22", after := #[{ on := 5, ground := Ground.guard }], guard := some (5, true) }) (v := undef) rfl (by kernel_rfl) (by kernel_rfl) (by kernel_rfl) (fun _ _ _ h => h) (Or.inr ⟨by rfl, rfl⟩) (by assumption) ?_
    try simp only [Act.put, List.setIfInBounds_toArray, List.set_cons_zero, List.set_cons_succ]
    refine wpAnyH_take (i := 10) (oi := { dst := some 15, op := Op.load 22 (Operand.tmp 14), type := 22, pos := "serial.go:22", after := #[{ on := 9, ground := Ground.data }, { on := 5, ground := Ground.guard }], guard := some (5, true) }) (v := undef) rfl (by kernel_rfl) (by kernel_rfl) (by kernel_rfl) (fun _ _ _ h => h) (Or.inr ⟨by rfl, rfl⟩) (by assumption) ?_
    try simp only [Act.put, List.setIfInBounds_toArray, List.set_cons_zero, List.set_cons_succ]
    refine wpAnyH_take (i := 11) (oi := { dst := some 16, op := Op.call { callee := Callee.value (Operand.tmp 11), args := #[Operand.tmp 13, Operand.tmp 15], argTypes := #[22, 22] }, type := 4, pos := "serial.go:22", after := #[{ on := 6, ground := Ground.data }, { on := 8, ground := Ground.data }, { on := 10, ground := Ground.data }, { on := 5, ground := Ground.chain }, { on := 5, ground := Ground.guard }], guard := some (5, true) }) (v := undef) rfl (by kernel_rfl) (by kernel_rfl) (by kernel_rfl) (fun _ _ _ h => h) (Or.inr ⟨by rfl, rfl⟩) (by assumption) ?_
    try simp only [Act.put, List.setIfInBounds_toArray, List.set_cons_zero, List.set_cons_succ]
    refine wpAnyH_take (i := 12) (oi := { dst := some 17, op := Op.pick (Operand.tmp 10) (Operand.tmp 16) (Operand.const (Value.bool false)), type := 4, pos := "serial.go:22", after := #[{ on := 5, ground := Ground.data }, { on := 11, ground := Ground.data }], guard := none }) (v := .bool false) rfl (by kernel_rfl) (by kernel_rfl) (by kernel_rfl) (fun _ _ _ h => h) (Or.inl ⟨by rfl, ?_⟩) (by assumption) ?_
    · intro w hSw
      try dsimp only at hSw
      go_simp
      try with_reducible rfl
    try simp only [Act.put, List.setIfInBounds_toArray, List.set_cons_zero, List.set_cons_succ]
    refine wpAnyH_take (i := 13) (oi := { dst := some 4, op := Op.assign (Operand.tmp 17), type := 4, pos := "serial.go:22", after := #[{ on := 12, ground := Ground.data }, { on := 11, ground := Ground.chain }, { on := 0, ground := Ground.phase }, { on := 1, ground := Ground.phase }, { on := 2, ground := Ground.phase }, { on := 3, ground := Ground.phase }, { on := 4, ground := Ground.phase }, { on := 5, ground := Ground.phase }, { on := 6, ground := Ground.phase }, { on := 7, ground := Ground.phase }, { on := 8, ground := Ground.phase }, { on := 9, ground := Ground.phase }, { on := 10, ground := Ground.phase }, { on := 11, ground := Ground.phase }, { on := 12, ground := Ground.phase }], guard := none }) (v := .bool false) rfl (by kernel_rfl) (by kernel_rfl) (by kernel_rfl) (fun _ _ _ h => h) (Or.inl ⟨by rfl, ?_⟩) (by assumption) ?_
    · intro w hSw
      try dsimp only at hSw
      go_simp
      try with_reducible rfl
    try simp only [Act.put, List.setIfInBounds_toArray, List.set_cons_zero, List.set_cons_succ]
    refine wpAnyH_done (by kernel_rfl) ?_ _
    go_wp2
    go_ret
    exact ⟨rfl, hHeld.2.2.2.2.2.2.2⟩
  | true =>
    have HP := Aside0.mk (show pM18 x y = decide (x.f2 < y.f2) by unfold pM18; rw [hp]; rfl)
    have hp' : (x.f0 == y.f0 && x.f1.toList == y.f1.toList) = true := hp
    rw [HP.out]
    go_enter Try.func23, Try.ntmps23
    go_wp2_with fail
    (go_region_held3 (fun W' => W'.cell? ⟨bx, 0, none⟩ = some (.int .u64 x.f0) ∧ W'.cell? ⟨bx, 1, none⟩ = some (.string x.f1) ∧ W'.cell? ⟨bx, 2, none⟩ = some (.int .u64 x.f2) ∧ W'.cell? ⟨w.heap.size, 0, none⟩ = some (.int .u64 y.f0) ∧ W'.cell? ⟨w.heap.size, 1, none⟩ = some (.string y.f1) ∧ W'.cell? ⟨w.heap.size, 2, none⟩ = some (.int .u64 y.f2) ∧ W'.cell? ⟨bh, 0, none⟩ = some (.func (.func 18) #[] #[]) ∧ Below w.heap.size w W') (first | (refine skeep_18 ?_ hb; assumption) | (refine skeep_18 ?_ HB2.out; assumption) | (exact HS0.out) | go_keep)
     (first
      | (go_at_call 24; refine (of_24 x _).mono ?_; rintro e w1 ⟨rfl, hb⟩)
      | (go_at_call 24; refine (of_24 y _).mono ?_; rintro e w2 ⟨rfl, hb⟩)
      | (go_at_call 18; refine (less_18 _ _ _).mono ?_; rintro e w3 ⟨rfl, hb⟩)))
    have HE := Aside0.mk (skeepB_18 (x := x) (y := y) (bx := bx) (bh := bh) (w := w) (by assumption))
    go_wp2
    go_ret
    exact ⟨rfl, HE.out⟩

set_option maxHeartbeats 1000000 in
theorem cl22_18 (x : S40) (B : Option Addr) (cb : Nat) (lb : List S40) (bb bh : Nat) (w : World) (hb : w.heap[bb]? = some (.cells #[.slice B lb.length cb] 25 (0, 0))) (hh : w.heap[bh]? = some (.cells #[.func (.func 18) #[] #[]] 43 (0, 0))) (hr : Kd.C k40 w B lb.length lb) (hc : lb.length ≤ cb) :
    Calls Try.prog 22 #[.agg #[.int .u64 x.f0, .string x.f1, .int .u64 x.f2], .pointer (some ⟨bb, 0, none⟩), .pointer (some ⟨bh, 0, none⟩)] w fun e w' => e = .returned (.bool (lb.any (pM18 x))) ∧ Below w.heap.size w w' := by
  have b0 := blk_cell hb 0
  have z1 := blk_lt hb
  have H := Aside0.mk (cont_23 B cb lb (pM18 x) w.heap.size bh (fun W => W.heap[w.heap.size]? = some (.cells #[.int .u64 x.f0, .string x.f1, .int .u64 x.f2] 40 (0, 0)) ∧ W.heap[bh]? = some (.cells #[.func (.func 18) #[] #[]] 43 (0, 0)))
    (w.alloc (.cells #[.int .u64 x.f0, .string x.f1, .int .u64 x.f2] 40)) (Kd.C_alloc hr _) hc ⟨blk_new _ _, blk_alloc hh _⟩ (fun W W' h hb => ⟨blk_below h.1 hb, blk_below h.2 hb⟩) (fun y W _ h => cl23_18 x y w.heap.size bh W h.1 h.2))
  clear hb hh hr
  go_enter Try.func22, Try.ntmps22
  go_wp2_with fail
  refine H.out.mono ?_
  rintro e w1 ⟨rfl, hb⟩
  have HB := Aside0.mk (below_call (below_alloc (Below.refl w.heap.size w) _) hb)
  clear hb H
  go_wp2
  go_ret
  exact ⟨rfl, HB.out⟩
def meet18 (la lb : List S40) : Bool := la.any fun x => lb.any (pM18 x)
set_option maxHeartbeats 1000000 in
theorem meet_18 (A : Option Addr) (ca : Nat) (la : List S40) (B : Option Addr) (cb : Nat) (lb : List S40) (w : World) (hra : Kd.C k40 w A la.length la) (hca : la.length ≤ ca) (hrb : Kd.C k40 w B lb.length lb) (hcb : lb.length ≤ cb) :
    Calls Try.prog 19 #[.slice A la.length ca, .slice B lb.length cb, .func (.func 18) #[] #[]] w fun e w' => e = .returned (.bool (meet18 la lb)) ∧ Below w.heap.size w w' := by
  unfold meet18
  have H := Aside0.mk (cont_22 A ca la (fun x => lb.any (pM18 x)) w.heap.size (w.heap.size + 1) (fun W => W.heap[w.heap.size]? = some (.cells #[.slice B lb.length cb] 25 (0, 0)) ∧ W.heap[w.heap.size + 1]? = some (.cells #[.func (.func 18) #[] #[]] 43 (0, 0)) ∧ Kd.C k40 W B lb.length lb)
    ((w.alloc (.cells #[.slice B lb.length cb] 25)).alloc (.cells #[.func (.func 18) #[] #[]] 43)) (Kd.C_alloc (Kd.C_alloc hra _) _) hca ⟨blk_alloc (blk_new _ _) _, blk_newAt _ (by simp), Kd.C_alloc (Kd.C_alloc hrb _) _⟩ (fun W W' h hb => ⟨blk_below h.1 hb, blk_below h.2.1 hb, Kd.C_below h.2.2 hb⟩) (fun x W _ h => cl22_18 x B cb lb w.heap.size (w.heap.size + 1) W h.1 h.2.1 h.2.2 hcb))
  clear hra hrb
  go_enter Try.func19, Try.ntmps19
  go_wp2_with fail
  refine H.out.mono ?_
  rintro e w1 ⟨rfl, hb⟩
  have HB := Aside0.mk (below_call (below_alloc (below_alloc (Below.refl w.heap.size w) _) _) hb)
  clear hb H
  go_wp2
  go_ret
  exact ⟨rfl, HB.out⟩
end Go.Proofs.Ytbadlkhelhomjaa.Pr
