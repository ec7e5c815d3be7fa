/- coord.Right, slices.ContainsFunc and slices.IndexFunc at deals: what they compute, and that they do. Conditions: none. -/
import Derived.Test.YtdlkpejlkijgcaaHandFind
import Derived.Test.YtdlkpejlkijgcaaPr18
import Derived.Deep.RegionLaw
namespace Go.Proofs.Ytdlkpejlkijgcaa.Pr
open Go.RowKit Go.Proofs.YtdlkpejlkijgcaaW.PrintWords Go.Proofs.YtdlkpejlkijgcaaW.PrintLast Go.Proofs.YtdlkpejlkijgcaaW.PrintMore
open Go.Proofs.Ytdlkpejlkijgcaa.Hnd
attribute [local go_sem] setCell_drewN_ alloc_drewN_
set_option linter.unusedVariables false
set_option linter.unusedSimpArgs false
/-- The place of the first of which p holds; -1: there is none. -/
def idxN (p : S42 → Bool) : List S42 → Nat → Int
  | [], _ => -1
  | x :: r, i => if p x = true then (i : Int) else idxN p r (i + 1)
theorem idx_any (p : S42 → Bool) : ∀ (l : List S42) (i : Nat), decide (0 ≤ idxN p l i) = l.any p
  | [], _ => rfl
  | x :: r, i => by
    rw [idxN, List.any_cons]
    cases hp : p x with
    | true => simp
    | false => rw [if_neg (by decide), Bool.false_or]; exact idx_any p r (i + 1)
theorem rd_at (l : List S42) (i : Nat) (h : i < l.length) : rd_T42 l (i : Int) = l[i] := by simp [rd_T42, List.getD_eq_getElem?_getD, h]
theorem idxN_at (p : S42 → Bool) (l : List S42) (i : Nat) (h : i < l.length) : idxN p (l.drop i) i = if p (rd_T42 l (i : Int)) = true then (i : Int) else idxN p (l.drop (i + 1)) (i + 1) := by
  rw [List.drop_eq_getElem_cons h, rd_at l i h]
  rfl
theorem rd_mem (l : List S42) (i : Nat) (h : i < l.length) : rd_T42 l (i : Int) ∈ l := by
  rw [rd_at l i h]
  exact List.getElem_mem _
set_option maxHeartbeats 2000000 in
set_option maxRecDepth 100000 in
theorem idx_25 (A : Option Addr) (c : Nat) (l : List S42) (p : S42 → Bool) (w : World) (hr : Kd.C k42 w A l.length l) (hc : l.length ≤ c)
    (HP : ∀ (x : S42) (A2 : Option Addr) (c2 : Nat) (W : World), x ∈ l → Kd.C (Kd.int .u64) W A2 x.f1.length x.f1 → x.f1.length ≤ c2 → Calls Try.prog 25 #[.agg #[.int .u64 x.f0.f0, .int .u64 x.f0.f1, .slice A2 x.f1.length c2, .int .i64 x.f2]] W fun e w' => e = .returned (.bool (p x)) ∧ Below W.heap.size W w') :
    Calls Try.prog 33 #[.slice A l.length c, .func (.func 25) #[] #[]] w fun e w' => e = .returned (.int .i64 (idxN p l 0)) ∧ Below w.heap.size w w' := by
  have HR := Aside0.mk hr
  have HL : l.length ≤ 9223372036854775807 := hr.2.1
  have HP0 := Aside0.mk HP
  clear hr HP
  go_enter Try.func33, Try.ntmps33
  go_wp2_with fail
  go_loopg [5, 8] l.length (fun g v5 v8 wr => ∃ (i : Nat), v8 = .int .i64 (i : Int) ∧ Aside0 (i ≤ l.length ∧ l.length - i ≤ g) ∧ Aside0 (idxN p l 0 = idxN p (l.drop i) i) ∧ Aside0 (Below w.heap.size w wr))
  case atStart => exact ⟨0, rfl, ⟨by omega⟩, ⟨rfl⟩, ⟨Below.refl _ _⟩⟩
  case round =>
    obtain ⟨i, rfl, HI, HT, HB⟩ := hrel
    by_cases hlt : (i : Int) < l.length
    · have hltb := decide_eq_true hlt
      obtain ⟨ad, A2, c2, rfl, e0, e1, e2, e3, hl2, hi2⟩ := at_T42 HR.out (i : Int) (by omega) hlt
      simp only [Int.toNat_natCast] at e0 e1 e2 e3
      replace e0 := (HB.out.cell (World.block_lt_of_cell? w _ e0)).trans e0
      replace e1 := (HB.out.cell (World.block_lt_of_cell? w _ e1)).trans e1
      replace e2 := (HB.out.cell (World.block_lt_of_cell? w _ e2)).trans e2
      replace e3 := (HB.out.cell (World.block_lt_of_cell? w _ e3)).trans e3
      obtain ⟨x, hx⟩ : ∃ x, rd_T42 l (i : Int) = x := ⟨_, rfl⟩
      have HX := Aside0.mk hx
      have HM := Aside0.mk (hx ▸ rd_mem l i (by omega))
      rw [hx] at e0 e1 e2 e3 hl2 hi2
      clear hx
      have hix := HT.out
      rw [idxN_at p l i (by omega), HX.out] at hix
      have HT2 := Aside0.mk hix
      have HA := Aside0.mk hl2
      have HC2 := Aside0.mk hi2
      clear hix HT hl2 hi2
      cases hp : p x with
      | true =>
        have HQ := Aside0.mk hp
        clear hp
        go_wp2_with (go_at_call 25; refine (HP0.out x _ _ _ HM.out ?hC ?hL).mono ?_; (case hC => first | exact Kd.C_below HC2.out HB.out | exact Kd.C_below HA.out HB.out); (case hL => first | exact HA.out | exact HC2.out); rintro e w1 ⟨rfl, hb⟩; rw [HQ.out]; have HB1 := Aside0.mk (below_call HB.out hb); clear hb)
        go_ret
        exact ⟨by rw [HT2.out, if_pos HQ.out]; rfl, HB1.out⟩
      | false =>
        have HQ := Aside0.mk hp
        clear hp
        go_wp2_with (go_at_call 25; refine (HP0.out x _ _ _ HM.out ?hC ?hL).mono ?_; (case hC => first | exact Kd.C_below HC2.out HB.out | exact Kd.C_below HA.out HB.out); (case hL => first | exact HA.out | exact HC2.out); rintro e w1 ⟨rfl, hb⟩; rw [HQ.out]; have HB1 := Aside0.mk (below_call HB.out hb); clear hb)
        go_roundg (gk - 1)
        case measure => have := HI.out; omega
        case rel => exact ⟨i + 1, by go_num, ⟨by have := HI.out; omega⟩, ⟨by rw [HT2.out, if_neg (by rw [HQ.out]; decide)]⟩, HB1⟩
    · have hltb := decide_eq_false hlt
      go_wp2
      go_ret
      refine ⟨?_, HB.out⟩
      have hie : i = l.length := by have := HI.out; omega
      rw [HT.out, hie, List.drop_length]
      rfl
set_option maxHeartbeats 1000000 in
set_option maxRecDepth 100000 in
theorem cf_25 (A : Option Addr) (c : Nat) (l : List S42) (p : S42 → Bool) (w : World) (hr : Kd.C k42 w A l.length l) (hc : l.length ≤ c)
    (HP : ∀ (x : S42) (A2 : Option Addr) (c2 : Nat) (W : World), x ∈ l → Kd.C (Kd.int .u64) W A2 x.f1.length x.f1 → x.f1.length ≤ c2 → Calls Try.prog 25 #[.agg #[.int .u64 x.f0.f0, .int .u64 x.f0.f1, .slice A2 x.f1.length c2, .int .i64 x.f2]] W fun e w' => e = .returned (.bool (p x)) ∧ Below W.heap.size W w') :
    Calls Try.prog 24 #[.slice A l.length c, .func (.func 25) #[] #[]] w fun e w' => e = .returned (.bool (l.any p)) ∧ Below w.heap.size w w' := by
  have H := Aside0.mk (idx_25 A c l p w hr hc HP)
  clear hr HP
  go_enter Try.func24, Try.ntmps24
  go_wp2_with fail
  refine H.out.mono ?_
  rintro e w1 ⟨rfl, hb⟩
  go_wp2
  go_ret
  refine ⟨?_, hb⟩
  rw [idx_any]
  rfl
/-- A deal that may not be. -/
def badF (k : Nat) (x : S42) : Option Bool := coord_Right_1.f k x.f0.f0 x.f0.f1 x.f1 x.f2
def badB (k : Nat) (x : S42) : Bool := (badF k x).getD false
def coord_Right.f (k : Nat) (l0 : List S42) : Option Bool :=
  if 64 < l0.length then some false else if okAll l0 = true then (if plN l0 = l0.length then (if l0.all (fun x => (badF k x).isSome) = true then some (!(l0.any (badB k))) else none) else some false) else none
theorem badF_mono (k : Nat) (x : S42) : LeO (badF k x) (badF (k + 1) x) := coord_Right_1.mono _ _ _ _ _
theorem coord_Right.mono : ∀ a0 k, LeO (coord_Right.f k a0) (coord_Right.f (k + 1) a0) := by
  intro l k
  unfold coord_Right.f
  refine LeO.ite (LeO.refl _) (LeO.ite (LeO.ite ?_ (LeO.refl _)) (LeO.none _))
  intro r h
  by_cases ha : l.all (fun x => (badF k x).isSome) = true
  · rw [if_pos ha] at h
    rw [List.all_eq_true] at ha
    have hb : ∀ x, x ∈ l → badF (k + 1) x = badF k x := by
      intro x hx
      obtain ⟨b, hb⟩ := Option.isSome_iff_exists.1 (ha x hx)
      rw [hb]
      exact badF_mono k x b hb
    rw [if_pos (by rw [List.all_eq_true]; intro x hx; rw [hb x hx]; exact ha x hx)]
    rw [← h]
    congr 2
    rw [Bool.eq_iff_iff, List.any_eq_true, List.any_eq_true]
    constructor <;> rintro ⟨x, hx, h⟩ <;> refine ⟨x, hx, ?_⟩
    · unfold badB at *; rw [hb x hx] at h; exact h
    · unfold badB at *; rw [hb x hx]; exact h
  · rw [if_neg ha] at h
    cases h
theorem rkeep {n : Nat} {A : Option Addr} {ln c : Nat} {W0 W W' : World} (h : W.cell? ⟨n, 0, none⟩ = some (.slice A ln c) ∧ Below W0.heap.size W0 W) (hb : Below W.heap.size W W') :
    W'.cell? ⟨n, 0, none⟩ = some (.slice A ln c) ∧ Below W0.heap.size W0 W' := ⟨cell_bel h.1 hb, below_call h.2 hb⟩
theorem rbel {n : Nat} {A : Option Addr} {ln c : Nat} {W0 W : World} (h : W.cell? ⟨n, 0, none⟩ = some (.slice A ln c) ∧ Below W0.heap.size W0 W) : Below W0.heap.size W0 W := h.2
theorem lenP {w : World} {b n m : Nat} {xs : List S42} (h : Map54 w b n (plP xs (downL xs.length xs.length)).1 (plP xs (downL xs.length xs.length)).2) (hp : plN xs = m) :
    (Builtin.len_ #[54] 3 #[.map (some b)]).run Try.prog w = .ok (.int .i64 m) w := by
  subst hp
  exact MapI.len h Try.underlying54 3
set_option maxHeartbeats 4000000 in
set_option maxRecDepth 100000 in
theorem coord_Right.calls (k : Nat) (A0 : Option Addr) (c0 : Nat) (l0 : List S42) (r : Bool) (w : World) (hr0 : Kd.C k42 w A0 l0.length l0) (hc0 : l0.length ≤ c0) (h : coord_Right.f k l0 = some r) :
    Calls Try.prog 15 #[.agg #[.slice A0 l0.length c0]] w fun e w' => e = .returned (.bool r) ∧ Below w.heap.size w w' := by
  unfold coord_Right.f at h
  have HR := Aside0.mk hr0
  have HL := Aside0.mk hc0
  clear hr0 hc0
  have HPL := Aside0.mk (fun (hk : okAll l0 = true) W (hb : Below w.heap.size w W) => coord_places.calls A0 c0 l0 W (Kd.C_below HR.out hb) (okAll_at hk))
  go_enter Try.func15, Try.ntmps15
  go_wp2_with fail
  have b0 := blk_new w (.cells #[.slice A0 l0.length c0] 26)
  have hHN : Below w.heap.size w (w.alloc (.cells #[.slice A0 l0.length c0] 26)) := below_alloc (Below.refl _ _) _
  obtain ⟨W0, hW0⟩ : ∃ W0, w.alloc (.cells #[.slice A0 l0.length c0] 26) = W0 := ⟨_, rfl⟩
  rw [hW0] at b0 hHN ⊢
  have HN := Aside0.mk hHN
  have B0 := Aside0.mk b0
  clear hW0 hHN
  have HSS := Aside0.mk (show W0.drew.cell? ⟨w.heap.size, 0, none⟩ = some (.slice A0 l0.length c0) ∧ Below W0.heap.size W0 W0.drew from ⟨blk_cell b0 0, below_drew1 (Below.refl _ _)⟩)
  clear b0
  by_cases hlen : 64 < l0.length
  · rw [if_pos hlen] at h
    obtain rfl := Option.some.inj h
    have hlb : decide (64 < (l0.length : Int)) = true := decide_eq_true (by omega)
    have hlc : decide ((l0.length : Int) > 64) = true := decide_eq_true (by omega)
    refine wp_region_held_drew (S := fun W' => W'.cell? ⟨w.heap.size, 0, none⟩ = some (.slice A0 l0.length c0) ∧ Below W0.heap.size W0 W') (by kernel_rfl) HSS.out (fun hHeld => ?_)
    refine wpAnyH_take (i := 0) (oi := { dst := some 3, op := Op.fieldAddr 26 (Operand.tmp 1) 0, type := 0, pos := "coord.go:104", after := #[], guard := none }) (v := .pointer (some ⟨w.heap.size, 0, none⟩)) rfl (by kernel_rfl) (by kernel_rfl) (by kernel_rfl) (fun _ _ _ h => h) (Or.inl ⟨by rfl, ?_⟩) (by assumption) ?_
    · intro w hSw
      try dsimp only at hSw
      go_simp
      try with_reducible rfl
    try simp only [Act.put, List.setIfInBounds_toArray, List.set_cons_zero, List.set_cons_succ]
    refine wpAnyH_take (i := 1) (oi := { dst := some 4, op := Op.load 24 (Operand.tmp 3), type := 24, pos := "coord.go:104", after := #[{ on := 0, ground := Ground.data }], guard := none }) (v := .slice A0 l0.length c0) rfl (by kernel_rfl) (by kernel_rfl) (by kernel_rfl) (fun _ _ _ h => h) (Or.inl ⟨by rfl, ?_⟩) (by assumption) ?_
    · intro w hSw
      try dsimp only at hSw
      go_simp
      try with_reducible rfl
    try simp only [Act.put, List.setIfInBounds_toArray, List.set_cons_zero, List.set_cons_succ]
    refine wpAnyH_take (i := 2) (oi := { dst := some 5, op := Op.call { callee := Callee.builtin Builtin.len, args := #[Operand.tmp 4], argTypes := #[24] }, type := 3, pos := "coord.go:104", after := #[{ on := 1, ground := Ground.data }], guard := none }) (v := .int .i64 l0.length) rfl (by kernel_rfl) (by kernel_rfl) (by kernel_rfl) (fun _ _ _ h => h) (Or.inl ⟨by rfl, ?_⟩) (by assumption) ?_
    · intro w hSw
      try dsimp only at hSw
      go_simp
      try with_reducible rfl
    try simp only [Act.put, List.setIfInBounds_toArray, List.set_cons_zero, List.set_cons_succ]
    refine wpAnyH_take (i := 3) (oi := { dst := some 6, op := Op.binOp BinOp.gtr 3 (Operand.tmp 5) (Operand.const (Value.int IntKind.i64 64)) 3, type := 4, pos := "coord.go:104", after := #[{ on := 2, ground := Ground.data }], guard := none }) (v := .bool true) rfl (by kernel_rfl) (by kernel_rfl) (by kernel_rfl) (fun _ _ _ h => h) (Or.inl ⟨by rfl, ?_⟩) (by assumption) ?_
    · intro w hSw
      try dsimp only at hSw
      go_simp
      try with_reducible rfl
    try simp only [Act.put, List.setIfInBounds_toArray, List.set_cons_zero, List.set_cons_succ]
    refine wpAnyH_take (i := 4) (oi := { dst := some 7, op := Op.move (Operand.tmp 6), type := 4, pos := "coord.go:104", after := #[{ on := 3, ground := Ground.data }], guard := none }) (v := .bool true) rfl (by kernel_rfl) (by kernel_rfl) (by kernel_rfl) (fun _ _ _ h => h) (Or.inl ⟨by rfl, ?_⟩) (by assumption) ?_
    · intro w hSw
      try dsimp only at hSw
      go_simp
      try with_reducible rfl
    try simp only [Act.put, List.setIfInBounds_toArray, List.set_cons_zero, List.set_cons_succ]
    refine wpAnyH_take (i := 5) (oi := { dst := some 8, op := Op.load 26 (Operand.tmp 1), type := 26, pos := "coord.go:104", after := #[{ on := 4, ground := Ground.guard }], guard := some (4, false) }) (v := undef) rfl (by kernel_rfl) (by kernel_rfl) (by kernel_rfl) (fun _ _ _ h => h) (Or.inr ⟨by rfl, rfl⟩) (by assumption) ?_
    try simp only [Act.put, List.setIfInBounds_toArray, List.set_cons_zero, List.set_cons_succ]
    refine wpAnyH_take (i := 6) (oi := { dst := some 9, op := Op.call { callee := Callee.value (Operand.func 22), args := #[Operand.tmp 8], argTypes := #[26] }, type := 54, pos := "coord.go:104", after := #[{ on := 5, ground := Ground.data }, { on := 4, ground := Ground.chain }, { on := 4, ground := Ground.guard }], guard := some (4, false) }) (v := undef) rfl (by kernel_rfl) (by kernel_rfl) (by kernel_rfl) (fun _ _ _ h => h) (Or.inr ⟨by rfl, rfl⟩) (by assumption) ?_
    try simp only [Act.put, List.setIfInBounds_toArray, List.set_cons_zero, List.set_cons_succ]
    refine wpAnyH_take (i := 7) (oi := { dst := some 10, op := Op.call { callee := Callee.builtin Builtin.len, args := #[Operand.tmp 9], argTypes := #[54] }, type := 3, pos := "coord.go:104", after := #[{ on := 6, ground := Ground.data }, { on := 6, ground := Ground.chain }, { on := 4, ground := Ground.guard }], guard := some (4, false) }) (v := undef) rfl (by kernel_rfl) (by kernel_rfl) (by kernel_rfl) (fun _ _ _ h => h) (Or.inr ⟨by rfl, rfl⟩) (by assumption) ?_
    try simp only [Act.put, List.setIfInBounds_toArray, List.set_cons_zero, List.set_cons_succ]
    refine wpAnyH_take (i := 8) (oi := { dst := some 11, op := Op.fieldAddr 26 (Operand.tmp 1) 0, type := 0, pos := "coord.go:104", after := #[{ on := 4, ground := Ground.guard }], guard := some (4, false) }) (v := undef) rfl (by kernel_rfl) (by kernel_rfl) (by kernel_rfl) (fun _ _ _ h => h) (Or.inr ⟨by rfl, rfl⟩) (by assumption) ?_
    try simp only [Act.put, List.setIfInBounds_toArray, List.set_cons_zero, List.set_cons_succ]
    refine wpAnyH_take (i := 9) (oi := { dst := some 12, op := Op.load 24 (Operand.tmp 11), type := 24, pos := "coord.go:104", after := #[{ on := 8, ground := Ground.data }, { on := 4, ground := Ground.guard }], guard := some (4, false) }) (v := undef) rfl (by kernel_rfl) (by kernel_rfl) (by kernel_rfl) (fun _ _ _ h => h) (Or.inr ⟨by rfl, rfl⟩) (by assumption) ?_
    try simp only [Act.put, List.setIfInBounds_toArray, List.set_cons_zero, List.set_cons_succ]
    refine wpAnyH_take (i := 10) (oi := { dst := some 13, op := Op.call { callee := Callee.builtin Builtin.len, args := #[Operand.tmp 12], argTypes := #[24] }, type := 3, pos := "coord.go:104", after := #[{ on := 9, ground := Ground.data }, { on := 4, ground := Ground.guard }], guard := some (4, false) }) (v := undef) rfl (by kernel_rfl) (by kernel_rfl) (by kernel_rfl) (fun _ _ _ h => h) (Or.inr ⟨by rfl, rfl⟩) (by assumption) ?_
    try simp only [Act.put, List.setIfInBounds_toArray, List.set_cons_zero, List.set_cons_succ]
    refine wpAnyH_take (i := 11) (oi := { dst := some 14, op := Op.binOp BinOp.neq 3 (Operand.tmp 10) (Operand.tmp 13) 3, type := 4, pos := "coord.go:104", after := #[{ on := 7, ground := Ground.data }, { on := 10, ground := Ground.data }, { on := 4, ground := Ground.guard }], guard := some (4, false) }) (v := undef) rfl (by kernel_rfl) (by kernel_rfl) (by kernel_rfl) (fun _ _ _ h => h) (Or.inr ⟨by rfl, rfl⟩) (by assumption) ?_
    try simp only [Act.put, List.setIfInBounds_toArray, List.set_cons_zero, List.set_cons_succ]
    refine wpAnyH_take (i := 12) (oi := { dst := some 15, op := Op.pick (Operand.tmp 7) (Operand.const (Value.bool true)) (Operand.tmp 14), type := 4, pos := "coord.go:104", after := #[{ on := 4, ground := Ground.data }, { on := 11, ground := Ground.data }], guard := none }) (v := .bool true) rfl (by kernel_rfl) (by kernel_rfl) (by kernel_rfl) (fun _ _ _ h => h) (Or.inl ⟨by rfl, ?_⟩) (by assumption) ?_
    · intro w hSw
      try dsimp only at hSw
      go_simp
      try with_reducible rfl
    try simp only [Act.put, List.setIfInBounds_toArray, List.set_cons_zero, List.set_cons_succ]
    refine wpAnyH_done (by kernel_rfl) ?_ _
    go_wp2
    go_ret
    exact ⟨rfl, below_call HN.out hHeld.2⟩
  · rw [if_neg hlen] at h
    have hlb : decide (64 < (l0.length : Int)) = false := decide_eq_false (by omega)
    have hlc : decide ((l0.length : Int) > 64) = false := decide_eq_false (by omega)
    by_cases hok : okAll l0 = true
    rotate_left
    · rw [if_neg hok] at h; cases h
    rw [if_pos hok] at h
    have HH := Aside0.mk h
    have HPM := Aside0.mk (HPL.out hok)
    clear h hok HPL
    obtain ⟨m, hm⟩ : ∃ m, plN l0 = m := ⟨_, rfl⟩
    have HM := Aside0.mk hm
    rw [hm] at HH
    clear hm
    refine wp_region_held_drew (S := fun W' => W'.cell? ⟨w.heap.size, 0, none⟩ = some (.slice A0 l0.length c0) ∧ Below W0.heap.size W0 W') (by kernel_rfl) HSS.out (fun hHeld => ?_)
    refine wpAnyH_take (i := 0) (oi := { dst := some 3, op := Op.fieldAddr 26 (Operand.tmp 1) 0, type := 0, pos := "coord.go:104", after := #[], guard := none }) (v := .pointer (some ⟨w.heap.size, 0, none⟩)) rfl (by kernel_rfl) (by kernel_rfl) (by kernel_rfl) (fun _ _ _ h => h) (Or.inl ⟨by rfl, ?_⟩) (by assumption) ?_
    · intro w hSw
      try dsimp only at hSw
      go_simp
      try with_reducible rfl
    try simp only [Act.put, List.setIfInBounds_toArray, List.set_cons_zero, List.set_cons_succ]
    refine wpAnyH_take (i := 1) (oi := { dst := some 4, op := Op.load 24 (Operand.tmp 3), type := 24, pos := "coord.go:104", after := #[{ on := 0, ground := Ground.data }], guard := none }) (v := .slice A0 l0.length c0) rfl (by kernel_rfl) (by kernel_rfl) (by kernel_rfl) (fun _ _ _ h => h) (Or.inl ⟨by rfl, ?_⟩) (by assumption) ?_
    · intro w hSw
      try dsimp only at hSw
      go_simp
      try with_reducible rfl
    try simp only [Act.put, List.setIfInBounds_toArray, List.set_cons_zero, List.set_cons_succ]
    refine wpAnyH_take (i := 2) (oi := { dst := some 5, op := Op.call { callee := Callee.builtin Builtin.len, args := #[Operand.tmp 4], argTypes := #[24] }, type := 3, pos := "coord.go:104", after := #[{ on := 1, ground := Ground.data }], guard := none }) (v := .int .i64 l0.length) rfl (by kernel_rfl) (by kernel_rfl) (by kernel_rfl) (fun _ _ _ h => h) (Or.inl ⟨by rfl, ?_⟩) (by assumption) ?_
    · intro w hSw
      try dsimp only at hSw
      go_simp
      try with_reducible rfl
    try simp only [Act.put, List.setIfInBounds_toArray, List.set_cons_zero, List.set_cons_succ]
    refine wpAnyH_take (i := 3) (oi := { dst := some 6, op := Op.binOp BinOp.gtr 3 (Operand.tmp 5) (Operand.const (Value.int IntKind.i64 64)) 3, type := 4, pos := "coord.go:104", after := #[{ on := 2, ground := Ground.data }], guard := none }) (v := .bool false) rfl (by kernel_rfl) (by kernel_rfl) (by kernel_rfl) (fun _ _ _ h => h) (Or.inl ⟨by rfl, ?_⟩) (by assumption) ?_
    · intro w hSw
      try dsimp only at hSw
      go_simp
      try with_reducible rfl
    try simp only [Act.put, List.setIfInBounds_toArray, List.set_cons_zero, List.set_cons_succ]
    refine wpAnyH_take (i := 4) (oi := { dst := some 7, op := Op.move (Operand.tmp 6), type := 4, pos := "coord.go:104", after := #[{ on := 3, ground := Ground.data }], guard := none }) (v := .bool false) rfl (by kernel_rfl) (by kernel_rfl) (by kernel_rfl) (fun _ _ _ h => h) (Or.inl ⟨by rfl, ?_⟩) (by assumption) ?_
    · intro w hSw
      try dsimp only at hSw
      go_simp
      try with_reducible rfl
    try simp only [Act.put, List.setIfInBounds_toArray, List.set_cons_zero, List.set_cons_succ]
    refine wpAnyH_take (i := 5) (oi := { dst := some 8, op := Op.load 26 (Operand.tmp 1), type := 26, pos := "coord.go:104", after := #[{ on := 4, ground := Ground.guard }], guard := some (4, false) }) (v := .agg #[.slice A0 l0.length c0]) rfl (by kernel_rfl) (by kernel_rfl) (by kernel_rfl) (fun _ _ _ h => h) (Or.inl ⟨by rfl, ?_⟩) (by assumption) ?_
    · intro w hSw
      try dsimp only at hSw
      go_simp
      try with_reducible rfl
    try simp only [Act.put, List.setIfInBounds_toArray, List.set_cons_zero, List.set_cons_succ]
    refine wpAnyH_take (i := 8) (oi := { dst := some 11, op := Op.fieldAddr 26 (Operand.tmp 1) 0, type := 0, pos := "coord.go:104", after := #[{ on := 4, ground := Ground.guard }], guard := some (4, false) }) (v := .pointer (some ⟨w.heap.size, 0, none⟩)) rfl (by kernel_rfl) (by kernel_rfl) (by kernel_rfl) (fun _ _ _ h => h) (Or.inl ⟨by rfl, ?_⟩) (by assumption) ?_
    · intro w hSw
      try dsimp only at hSw
      go_simp
      try with_reducible rfl
    try simp only [Act.put, List.setIfInBounds_toArray, List.set_cons_zero, List.set_cons_succ]
    refine wpAnyH_take (i := 9) (oi := { dst := some 12, op := Op.load 24 (Operand.tmp 11), type := 24, pos := "coord.go:104", after := #[{ on := 8, ground := Ground.data }, { on := 4, ground := Ground.guard }], guard := some (4, false) }) (v := .slice A0 l0.length c0) rfl (by kernel_rfl) (by kernel_rfl) (by kernel_rfl) (fun _ _ _ h => h) (Or.inl ⟨by rfl, ?_⟩) (by assumption) ?_
    · intro w hSw
      try dsimp only at hSw
      go_simp
      try with_reducible rfl
    try simp only [Act.put, List.setIfInBounds_toArray, List.set_cons_zero, List.set_cons_succ]
    refine wpAnyH_take (i := 10) (oi := { dst := some 13, op := Op.call { callee := Callee.builtin Builtin.len, args := #[Operand.tmp 12], argTypes := #[24] }, type := 3, pos := "coord.go:104", after := #[{ on := 9, ground := Ground.data }, { on := 4, ground := Ground.guard }], guard := some (4, false) }) (v := .int .i64 l0.length) rfl (by kernel_rfl) (by kernel_rfl) (by kernel_rfl) (fun _ _ _ h => h) (Or.inl ⟨by rfl, ?_⟩) (by assumption) ?_
    · intro w hSw
      try dsimp only at hSw
      go_simp
      try with_reducible rfl
    try simp only [Act.put, List.setIfInBounds_toArray, List.set_cons_zero, List.set_cons_succ]
    refine wpAnyH_ready (rs := [6]) (by kernel_rfl) (by simp) ?_
    refine AllReadyH.cons (o := { dst := some 9, op := Op.call { callee := Callee.value (Operand.func 22), args := #[Operand.tmp 8], argTypes := #[26] }, type := 54, pos := "coord.go:104", after := #[{ on := 5, ground := Ground.data }, { on := 4, ground := Ground.chain }, { on := 4, ground := Ground.guard }], guard := some (4, false) }) rfl (fun K hK => ?_) AllReadyH.nil
    go_simp
    refine (HPM.out _ (below_call HN.out hHeld.2)).mono ?_
    rintro e w1 ⟨rfl, hm, hb⟩
    have hln := lenP (b := W0.heap.size + 1) hm HM.out
    clear hm
    go_wp2_with fail
    refine hK.out _ _ ?_ (fun hHeld => ?_)
    · exact rkeep hHeld hb
    clear hK K
    try simp only [Act.put, List.setIfInBounds_toArray, List.set_cons_zero, List.set_cons_succ]
    refine wpAnyH_ready (rs := [7]) (by kernel_rfl) (by simp) ?_
    refine AllReadyH.cons (o := { dst := some 10, op := Op.call { callee := Callee.builtin Builtin.len, args := #[Operand.tmp 9], argTypes := #[54] }, type := 3, pos := "coord.go:104", after := #[{ on := 6, ground := Ground.data }, { on := 6, ground := Ground.chain }, { on := 4, ground := Ground.guard }], guard := some (4, false) }) rfl (fun K hK => ?_) AllReadyH.nil
    go_simp
    go_wp2_with fail
    refine hK.out _ _ ?_ (fun hHeld => ?_)
    · exact hHeld
    clear hK K
    try simp only [Act.put, List.setIfInBounds_toArray, List.set_cons_zero, List.set_cons_succ]
    refine wpAnyH_take (i := 11) (oi := { dst := some 14, op := Op.binOp BinOp.neq 3 (Operand.tmp 10) (Operand.tmp 13) 3, type := 4, pos := "coord.go:104", after := #[{ on := 7, ground := Ground.data }, { on := 10, ground := Ground.data }, { on := 4, ground := Ground.guard }], guard := some (4, false) }) (v := .bool ((m : Int) != (l0.length : Int))) rfl (by kernel_rfl) (by kernel_rfl) (by kernel_rfl) (fun _ _ _ h => h) (Or.inl ⟨by rfl, ?_⟩) (by assumption) ?_
    · intro w hSw
      try dsimp only at hSw
      go_simp
      try with_reducible rfl
    try simp only [Act.put, List.setIfInBounds_toArray, List.set_cons_zero, List.set_cons_succ]
    refine wpAnyH_take (i := 12) (oi := { dst := some 15, op := Op.pick (Operand.tmp 7) (Operand.const (Value.bool true)) (Operand.tmp 14), type := 4, pos := "coord.go:104", after := #[{ on := 4, ground := Ground.data }, { on := 11, ground := Ground.data }], guard := none }) (v := .bool ((m : Int) != (l0.length : Int))) rfl (by kernel_rfl) (by kernel_rfl) (by kernel_rfl) (fun _ _ _ h => h) (Or.inl ⟨by rfl, ?_⟩) (by assumption) ?_
    · intro w hSw
      try dsimp only at hSw
      go_simp
      try with_reducible rfl
    try simp only [Act.put, List.setIfInBounds_toArray, List.set_cons_zero, List.set_cons_succ]
    refine wpAnyH_done (by kernel_rfl) ?_ _
    have hE := rbel (n := w.heap.size) (A := A0) (ln := l0.length) (c := c0) (W0 := W0) (W := w1) hHeld
    have HB1 := Aside0.mk (below_call HN.out hE)
    have b0 := blk_below B0.out hE
    have u0 := blk_cell b0 0
    clear b0 hE
    by_cases hml : m = l0.length
    · have hmb : ((m : Int) != (l0.length : Int)) = false := by rw [hml]; simp
      have hH := HH.out
      rw [if_pos hml] at hH
      by_cases hall : l0.all (fun x => (badF k x).isSome) = true
      rotate_left
      · rw [if_neg hall] at hH; cases hH
      rw [if_pos hall] at hH
      obtain rfl := Option.some.inj hH
      have HP := Aside0.mk (fun (x : S42) (hx : x ∈ l0) => show badF k x = some (badB k x) by
        obtain ⟨b, hb⟩ := Option.isSome_iff_exists.1 ((List.all_eq_true.1 hall) x hx)
        unfold badB
        rw [hb]; rfl)
      clear hH hall hml
      go_wp2_with fail
      refine (cf_25 A0 c0 l0 (badB k) w1 (Kd.C_below HR.out HB1.out) HL.out (fun x A2 c2 W hx hC hl => coord_Right_1.calls k x.f0.f0 x.f0.f1 A2 c2 x.f1 x.f2 (badB k x) W hC hl (HP.out x hx))).mono ?_
      rintro e w2 ⟨rfl, hb⟩
      go_wp2
      go_ret
      exact ⟨rfl, below_call HB1.out hb⟩
    · have hmb : ((m : Int) != (l0.length : Int)) = true := by
        rw [bne_iff_ne]
        omega
      have hH := HH.out
      rw [if_neg hml] at hH
      obtain rfl := Option.some.inj hH
      clear hH hml
      go_wp2
      go_ret
      exact ⟨rfl, HB1.out⟩
end Go.Proofs.Ytdlkpejlkijgcaa.Pr

namespace Go.Proofs.Ytdlkpejlkijgcaa.Pr
open Go.RowKit Go.Proofs.YtdlkpejlkijgcaaW.PrintWords Go.Proofs.YtdlkpejlkijgcaaW.PrintLast Go.Proofs.YtdlkpejlkijgcaaW.PrintMore
open Go.Proofs.Ytdlkpejlkijgcaa.Hnd
attribute [local go_sem] setCell_drewN_ alloc_drewN_
set_option linter.unusedVariables false
set_option linter.unusedSimpArgs false
/-- Does p hold of all pairs from the place i on? -/
def allP (p : S42 → S42 → Bool) (a b : List S42) (i n : Nat) : Bool := (List.range' i n).all (fun j => p (rd_T42 a (j : Int)) (rd_T42 b (j : Int)))
theorem allP_step (p : S42 → S42 → Bool) (a b : List S42) (i n : Nat) : allP p a b i (n + 1) = (p (rd_T42 a (i : Int)) (rd_T42 b (i : Int)) && allP p a b (i + 1) n) := by
  unfold allP
  rw [List.range'_succ, List.all_cons]
set_option maxHeartbeats 4000000 in
set_option maxRecDepth 100000 in
theorem ef_28 (A : Option Addr) (c : Nat) (l : List S42) (A' : Option Addr) (c' : Nat) (l' : List S42) (p : S42 → S42 → Bool) (w : World) (hr : Kd.C k42 w A l.length l) (hc : l.length ≤ c) (hr' : Kd.C k42 w A' l'.length l') (hc' : l'.length ≤ c')
    (HP : ∀ (j : Nat) (A2 : Option Addr) (c2 : Nat) (B2 : Option Addr) (d2 : Nat) (W : World), j < l.length → Kd.C (Kd.int .u64) W A2 (rd_T42 l (j : Int)).f1.length (rd_T42 l (j : Int)).f1 → (rd_T42 l (j : Int)).f1.length ≤ c2 → Kd.C (Kd.int .u64) W B2 (rd_T42 l' (j : Int)).f1.length (rd_T42 l' (j : Int)).f1 → (rd_T42 l' (j : Int)).f1.length ≤ d2 →
      Calls Try.prog 28 #[.agg #[.int .u64 (rd_T42 l (j : Int)).f0.f0, .int .u64 (rd_T42 l (j : Int)).f0.f1, .slice A2 (rd_T42 l (j : Int)).f1.length c2, .int .i64 (rd_T42 l (j : Int)).f2], .agg #[.int .u64 (rd_T42 l' (j : Int)).f0.f0, .int .u64 (rd_T42 l' (j : Int)).f0.f1, .slice B2 (rd_T42 l' (j : Int)).f1.length d2, .int .i64 (rd_T42 l' (j : Int)).f2]] W fun e w' => e = .returned (.bool (p (rd_T42 l (j : Int)) (rd_T42 l' (j : Int)))) ∧ Below W.heap.size W w')
    (hlen : l.length = l'.length) :
    Calls Try.prog 27 #[.slice A l.length c, .slice A' l'.length c', .func (.func 28) #[] #[]] w fun e w' => e = .returned (.bool (allP p l l' 0 l.length)) ∧ Below w.heap.size w w' := by
  have HR := Aside0.mk hr
  have HR' := Aside0.mk hr'
  have HL : l.length ≤ 9223372036854775807 := hr.2.1
  have hneb : ((l.length : Int) != (l'.length : Int)) = false := by rw [hlen]; simp
  have HP0 := Aside0.mk HP
  have HE := Aside0.mk hlen
  clear hr hr' HP hlen
  go_enter Try.func27, Try.ntmps27
  go_wp2_with fail
  go_loopg [7, 8, 9, 17] l.length (fun g v7 v8 v9 v17 wr => ∃ (i : Nat), v17 = .int .i64 (i : Int) ∧ Aside0 (i ≤ l.length ∧ l.length - i ≤ g) ∧ Aside0 (allP p l l' 0 l.length = allP p l l' i (l.length - i)) ∧ Aside0 (Below w.heap.size w wr))
  case atStart => exact ⟨0, rfl, ⟨by omega⟩, ⟨rfl⟩, ⟨Below.refl _ _⟩⟩
  case round =>
    obtain ⟨i, rfl, HI, HT, HB⟩ := hrel
    by_cases hlt : (i : Int) < l.length
    · have hltb := decide_eq_true hlt
      have hlt' : (i : Int) < l'.length := by rw [← HE.out]; exact hlt
      have hin : i < l.length := by omega
      obtain ⟨ad, A2, c2, rfl, e0, e1, e2, e3, hl2, hi2⟩ := at_T42 HR.out (i : Int) (by omega) hlt
      obtain ⟨ad', B2, d2, rfl, e0', e1', e2', e3', hl2', hi2'⟩ := at_T42 HR'.out (i : Int) (by omega) hlt'
      simp only [Int.toNat_natCast] at e0 e1 e2 e3 e0' e1' e2' e3'
      replace e0 := cell_bel e0 HB.out
      replace e1 := cell_bel e1 HB.out
      replace e2 := cell_bel e2 HB.out
      replace e3 := cell_bel e3 HB.out
      replace e0' := cell_bel e0' HB.out
      replace e1' := cell_bel e1' HB.out
      replace e2' := cell_bel e2' HB.out
      replace e3' := cell_bel e3' HB.out
      have hix := HT.out
      rw [show l.length - i = (l.length - (i + 1)) + 1 from by omega, allP_step] at hix
      have HT2 := Aside0.mk hix
      have HC2 := Aside0.mk (And.intro hl2 hi2)
      have HC2' := Aside0.mk (And.intro hl2' hi2')
      have HIN := Aside0.mk hin
      have q0 := cell_bel e0' (below_alloc (Below.refl _ _) (.cells #[.int .u64 (rd_T42 l (i : Int)).f0.f0, .int .u64 (rd_T42 l (i : Int)).f0.f1, .slice A2 (rd_T42 l (i : Int)).f1.length c2, .int .i64 (rd_T42 l (i : Int)).f2] 42))
      have q1 := cell_bel e1' (below_alloc (Below.refl _ _) (.cells #[.int .u64 (rd_T42 l (i : Int)).f0.f0, .int .u64 (rd_T42 l (i : Int)).f0.f1, .slice A2 (rd_T42 l (i : Int)).f1.length c2, .int .i64 (rd_T42 l (i : Int)).f2] 42))
      have q2 := cell_bel e2' (below_alloc (Below.refl _ _) (.cells #[.int .u64 (rd_T42 l (i : Int)).f0.f0, .int .u64 (rd_T42 l (i : Int)).f0.f1, .slice A2 (rd_T42 l (i : Int)).f1.length c2, .int .i64 (rd_T42 l (i : Int)).f2] 42))
      have q3 := cell_bel e3' (below_alloc (Below.refl _ _) (.cells #[.int .u64 (rd_T42 l (i : Int)).f0.f0, .int .u64 (rd_T42 l (i : Int)).f0.f1, .slice A2 (rd_T42 l (i : Int)).f1.length c2, .int .i64 (rd_T42 l (i : Int)).f2] 42))
      clear hix HT hl2 hi2 hl2' hi2' hin
      have hBW := below_alloc (below_alloc (Below.refl wr.heap.size wr) (.cells #[.int .u64 (rd_T42 l (i : Int)).f0.f0, .int .u64 (rd_T42 l (i : Int)).f0.f1, .slice A2 (rd_T42 l (i : Int)).f1.length c2, .int .i64 (rd_T42 l (i : Int)).f2] 42)) (.cells #[.int .u64 (rd_T42 l' (i : Int)).f0.f0, .int .u64 (rd_T42 l' (i : Int)).f0.f1, .slice B2 (rd_T42 l' (i : Int)).f1.length d2, .int .i64 (rd_T42 l' (i : Int)).f2] 42)
      have HB2 := Aside0.mk (below_call HB.out hBW)
      clear hBW
      go_wp2_with fail
      refine (HP0.out i A2 c2 B2 d2 _ HIN.out (Kd.C_below HC2.out.2 HB2.out) HC2.out.1 (Kd.C_below HC2'.out.2 HB2.out) HC2'.out.1).mono ?_
      rintro e w1 ⟨rfl, hb⟩
      have HB3 := Aside0.mk (below_call HB2.out hb)
      clear hb q0 q1 q2 q3 e0 e1 e2 e3 e0' e1' e2' e3'
      generalize hq : p (rd_T42 l (i : Int)) (rd_T42 l' (i : Int)) = q
      have HQ := Aside0.mk hq
      clear hq
      cases q with
      | true =>
        go_wp2_with fail
        go_roundg (gk - 1)
        case measure => have := HI.out; omega
        case rel => exact ⟨i + 1, by go_num, ⟨by have := HI.out; omega⟩, ⟨by rw [HT2.out, HQ.out, Bool.true_and]⟩, HB3⟩
      | false =>
        go_wp2_with fail
        go_ret
        exact ⟨by rw [HT2.out, HQ.out]; rfl, HB3.out⟩
    · have hltb := decide_eq_false hlt
      go_wp2
      go_ret
      refine ⟨?_, HB.out⟩
      have hie : i = l.length := by have := HI.out; omega
      rw [HT.out, hie, Nat.sub_self]
      rfl
set_option maxHeartbeats 1000000 in
set_option maxRecDepth 100000 in
theorem ef_ne (A : Option Addr) (c : Nat) (l : List S42) (A' : Option Addr) (c' : Nat) (l' : List S42) (w : World) (hlen : l.length ≠ l'.length) :
    Calls Try.prog 27 #[.slice A l.length c, .slice A' l'.length c', .func (.func 28) #[] #[]] w fun e w' => e = .returned (.bool false) ∧ Below w.heap.size w w' := by
  have hneb : ((l.length : Int) != (l'.length : Int)) = true := by rw [bne_iff_ne]; omega
  clear hlen
  go_enter Try.func27, Try.ntmps27
  go_wp2_with fail
  go_ret
  exact ⟨rfl, Below.refl _ _⟩
/-- Are two deals the same? -/
def eqF (k : Nat) (x y : S42) : Option Bool := coord_Same_1.f k x.f0.f0 x.f0.f1 x.f1 x.f2 y.f0.f0 y.f0.f1 y.f1 y.f2
def eqD (k : Nat) (x y : S42) : Bool := (eqF k x y).getD false
def coord_Same.f (k : Nat) (l0 l1 : List S42) : Option Bool :=
  if l0.length = l1.length then (if allP (fun x y => (eqF k x y).isSome) l0 l1 0 l0.length = true then some (allP (eqD k) l0 l1 0 l0.length) else none) else some false
theorem eqF_mono (k : Nat) (x y : S42) : LeO (eqF k x y) (eqF (k + 1) x y) := coord_Same_1.mono _ _ _ _ _ _ _ _ _
theorem coord_Same.mono : ∀ a0 a1 k, LeO (coord_Same.f k a0 a1) (coord_Same.f (k + 1) a0 a1) := by
  intro l l' k
  unfold coord_Same.f
  refine LeO.ite ?_ (LeO.refl _)
  intro r h
  by_cases ha : allP (fun x y => (eqF k x y).isSome) l l' 0 l.length = true
  · rw [if_pos ha] at h
    unfold allP at ha
    rw [List.all_eq_true] at ha
    have hb : ∀ j, j ∈ List.range' 0 l.length → eqF (k + 1) (rd_T42 l (j : Int)) (rd_T42 l' (j : Int)) = eqF k (rd_T42 l (j : Int)) (rd_T42 l' (j : Int)) := by
      intro x hx
      obtain ⟨b, hb⟩ := Option.isSome_iff_exists.1 (ha x hx)
      rw [hb]
      exact eqF_mono k _ _ b hb
    have e1 : allP (fun x y => (eqF (k + 1) x y).isSome) l l' 0 l.length = true := by
      unfold allP
      rw [List.all_eq_true]
      intro j hj
      show (eqF (k + 1) _ _).isSome = true
      rw [hb j hj]
      exact ha j hj
    have e2 : allP (eqD (k + 1)) l l' 0 l.length = allP (eqD k) l l' 0 l.length := by
      unfold allP
      rw [Bool.eq_iff_iff, List.all_eq_true, List.all_eq_true]
      constructor <;> intro h j hj <;> have := h j hj <;> unfold eqD at * <;> rw [hb j hj] at *  <;> exact this
    rw [if_pos e1, e2, h]
  · rw [if_neg ha] at h
    cases h
set_option maxHeartbeats 2000000 in
set_option maxRecDepth 100000 in
theorem coord_Same.calls (k : Nat) (A0 : Option Addr) (c0 : Nat) (l0 : List S42) (A1 : Option Addr) (c1 : Nat) (l1 : List S42) (r : Bool) (w : World) (hr0 : Kd.C k42 w A0 l0.length l0) (hc0 : l0.length ≤ c0) (hr1 : Kd.C k42 w A1 l1.length l1) (hc1 : l1.length ≤ c1) (h : coord_Same.f k l0 l1 = some r) :
    Calls Try.prog 16 #[.agg #[.slice A0 l0.length c0], .agg #[.slice A1 l1.length c1]] w fun e w' => e = .returned (.bool r) ∧ Below w.heap.size w w' := by
  unfold coord_Same.f at h
  have HR := Aside0.mk hr0
  have HL := Aside0.mk hc0
  have HR1 := Aside0.mk hr1
  have HL1 := Aside0.mk hc1
  have HH := Aside0.mk h
  clear hr0 hc0 hr1 hc1 h
  go_enter Try.func16, Try.ntmps16
  go_wp2_with fail
  have hB : Below w.heap.size w ((w.alloc (.cells #[.slice A0 l0.length c0] 26)).alloc (.cells #[.slice A1 l1.length c1] 26)) := below_alloc (below_alloc (Below.refl _ _) _) _
  by_cases hlen : l0.length = l1.length
  · have hH := HH.out
    rw [if_pos hlen] at hH
    by_cases hall : allP (fun x y => (eqF k x y).isSome) l0 l1 0 l0.length = true
    rotate_left
    · rw [if_neg hall] at hH; cases hH
    rw [if_pos hall] at hH
    obtain rfl := Option.some.inj hH
    unfold allP at hall
    rw [List.all_eq_true] at hall
    refine (ef_28 A0 c0 l0 A1 c1 l1 (eqD k) _ (Kd.C_below HR.out hB) HL.out (Kd.C_below HR1.out hB) HL1.out (fun j A2 c2 B2 d2 W hj hC hl hC' hl' => coord_Same_1.calls k _ _ A2 c2 _ _ _ _ B2 d2 _ _ _ W hC hl hC' hl' ?hs) hlen).mono ?_
    case hs =>
      obtain ⟨b, hb⟩ := Option.isSome_iff_exists.1 (hall j (by rw [List.mem_range'_1]; omega))
      show eqF k _ _ = some (eqD k _ _)
      unfold eqD
      rw [hb]
      rfl
    rintro e w1 ⟨rfl, hb⟩
    clear hlen
    go_wp2_with fail
    go_ret
    exact ⟨rfl, below_call hB hb⟩
  · have hH := HH.out
    rw [if_neg hlen] at hH
    obtain rfl := Option.some.inj hH
    refine (ef_ne A0 c0 l0 A1 c1 l1 _ hlen).mono ?_
    rintro e w1 ⟨rfl, hb⟩
    go_wp2_with fail
    go_ret
    exact ⟨rfl, below_call hB hb⟩
end Go.Proofs.Ytdlkpejlkijgcaa.Pr
