/- serial.Order: what it answers. Conditions: none. -/
import Derived.Test.YtbadlkhelhomjaaHandAhead
import Derived.BigQuiet
import Derived.Carry
namespace Go.Proofs.Ytbadlkhelhomjaa.Pr
open Go.RowKit Go.Proofs.YtbadlkhelhomjaaW.PrintWords Go.Proofs.YtbadlkhelhomjaaW.PrintLast Go.Proofs.YtbadlkhelhomjaaW.PrintMore
open Go.Proofs.Ytbadlkhelhomjaa.Hnd
attribute [local go_sem] setCell_drewN_ alloc_drewN_
set_option linter.unusedVariables false
set_option linter.unusedSimpArgs false
def okI (i : Int) : Prop := (Lit.int .i64 i).wf = true
def enc3 (i : Int) : Value := .int .i64 i
theorem enc3_inj (x y : Int) (h : enc3 x = enc3 y) : x = y := by simpa [enc3] using h
theorem okI_of (i : Nat) (h : i < 4611686018427387904) : okI (i : Int) := by
  have h1 : IntKind.i64.min = -9223372036854775808 := by decide
  have h2 : IntKind.i64.max = 9223372036854775807 := by decide
  show (decide (IntKind.i64.min ≤ (i : Int)) && decide ((i : Int) ≤ IntKind.i64.max)) = true
  rw [h1, h2, Bool.and_eq_true, decide_eq_true_iff, decide_eq_true_iff]
  omega
theorem laidOut : laidOutB Try.prog = true := by kernel_rfl
theorem keyed3 : Go.Maps.Keyed Try.prog 3 := Go.Maps.int_keyed Try.underlying3
theorem key3 (x : Int) (h : okI x) : ∃ kl, keyOf Try.prog 3 (enc3 x) = some kl := by
  have h : (Lit.int .i64 x).wf = true := h
  unfold keyOf enc3
  rw [Try.underlying3]
  simp [mapKey, Try.underlying3, h]
abbrev Set45 := MapB Try.prog 3 4 enc3 okI
theorem zero4 (w : World) : (zeroValue 4).run Try.prog w = .ok (.bool false) w := by kernel_rfl
theorem look45 {w : World} {b n : Nat} {S : Int → Bool} (h : Set45 w b n S) (x : Int) (hx : okI x) : (Instr.lookup 45 (.map (some b)) (.int .i64 x) false).run Try.prog w = .ok (.bool (S x)) w := by
  obtain ⟨kl, hk⟩ := key3 x hx
  exact MapB.lookup h keyed3 Try.underlying45 Try.underlying4 (zero4 w) hx hk
/-- Does k hinder i? -/
def hindB (l : List S27) (S : Int → Bool) (i k : Nat) : Bool := !(decide (k = i)) && (!(S (k : Int)) && aheadB (rd_T27 l (k : Int)) (rd_T27 l (i : Int)))
def freeB (l : List S27) (S : Int → Bool) (i : Nat) : Bool := (List.range l.length).all fun k => !(hindB l S i k)
theorem free_no {l : List S27} {S : Int → Bool} {i : Nat} (k : Nat) (hk : k < l.length) (h : hindB l S i k = true) : freeB l S i = false := by
  unfold freeB
  rw [List.all_eq_false]
  exact ⟨k, List.mem_range.2 hk, by simp [h]⟩
theorem free_yes {l : List S27} {S : Int → Bool} {i : Nat} (h : ∀ k, k < l.length → hindB l S i k = false) : freeB l S i = true := by
  unfold freeB
  rw [List.all_eq_true]
  exact fun k hk => by simp [h k (List.mem_range.1 hk)]
theorem rd_at27 (l : List S27) (i : Nat) (h : i < l.length) : rd_T27 l (i : Int) = l[i] := by simp [rd_T27, List.getD_eq_getElem?_getD, h]
/-- What stands while the closure looks. -/
structure Fr (l : List S27) (A : Option Addr) (c bl bt bm n : Nat) (S : Int → Bool) (w W : World) : Prop where
  kl : W.heap[bl]? = some (.cells #[.slice A l.length c] 30 (0, 0))
  kt : W.heap[bt]? = some (.cells #[.map (some bm)] 45 (0, 0))
  s : Set45 W bm n S
  bel : Below w.heap.size w W
theorem Fr.below {l : List S27} {A : Option Addr} {c bl bt bm n : Nat} {S : Int → Bool} {w W W1 : World} (h : Fr l A c bl bt bm n S w W) (hb : Below W.heap.size W W1) : Fr l A c bl bt bm n S w W1 :=
  ⟨blk_below h.kl hb, blk_below h.kt hb, MapB.below h.s hb, below_call h.bel hb⟩
theorem Fr.drew {l : List S27} {A : Option Addr} {c bl bt bm n : Nat} {S : Int → Bool} {w W : World} (h : Fr l A c bl bt bm n S w W) : Fr l A c bl bt bm n S w W.drew := h.below (below_drew1 (Below.refl _ _))
theorem fkeep {l : List S27} {ad : Addr} {c bl bt bm n k i : Nat} {S : Int → Bool} {x y : S27} {X4 X5 Y4 Y5 : Option Addr} {Xc4 Xc5 Yc4 Yc5 : Nat} {w W : World} {W1 : World} (hk : okI (k : Int)) (hS : S (k : Int) = false) (h : W.cell? ⟨bl, 0, none⟩ = some (.slice (some ad) l.length c) ∧ W.cell? ⟨bt, 0, none⟩ = some (.map (some bm)) ∧ W.cell? (ad.add (k * 6)) = some (.int .u64 x.f0.f0) ∧ W.cell? ⟨(ad.add (k * 6)).block, (ad.add (k * 6)).off + 1, none⟩ = some (.int .u64 x.f0.f1) ∧ W.cell? ⟨(ad.add (k * 6)).block, (ad.add (k * 6)).off + 2, none⟩ = some (.int .u64 x.f1) ∧ W.cell? ⟨(ad.add (k * 6)).block, (ad.add (k * 6)).off + 3, none⟩ = some (.int .u64 x.f2) ∧ W.cell? ⟨(ad.add (k * 6)).block, (ad.add (k * 6)).off + 4, none⟩ = some (.slice X4 x.f3.length Xc4) ∧ W.cell? ⟨(ad.add (k * 6)).block, (ad.add (k * 6)).off + 5, none⟩ = some (.slice X5 x.f4.length Xc5) ∧ W.cell? (ad.add (i * 6)) = some (.int .u64 y.f0.f0) ∧ W.cell? ⟨(ad.add (i * 6)).block, (ad.add (i * 6)).off + 1, none⟩ = some (.int .u64 y.f0.f1) ∧ W.cell? ⟨(ad.add (i * 6)).block, (ad.add (i * 6)).off + 2, none⟩ = some (.int .u64 y.f1) ∧ W.cell? ⟨(ad.add (i * 6)).block, (ad.add (i * 6)).off + 3, none⟩ = some (.int .u64 y.f2) ∧ W.cell? ⟨(ad.add (i * 6)).block, (ad.add (i * 6)).off + 4, none⟩ = some (.slice Y4 y.f3.length Yc4) ∧ W.cell? ⟨(ad.add (i * 6)).block, (ad.add (i * 6)).off + 5, none⟩ = some (.slice Y5 y.f4.length Yc5) ∧ (Instr.lookup 45 (.map (some bm)) (.int .i64 (k : Int)) false).run Try.prog W = .ok (.bool false) W ∧ Fr l (some ad) c bl bt bm n S w W) (hb : Below W.heap.size W W1) : W1.cell? ⟨bl, 0, none⟩ = some (.slice (some ad) l.length c) ∧ W1.cell? ⟨bt, 0, none⟩ = some (.map (some bm)) ∧ W1.cell? (ad.add (k * 6)) = some (.int .u64 x.f0.f0) ∧ W1.cell? ⟨(ad.add (k * 6)).block, (ad.add (k * 6)).off + 1, none⟩ = some (.int .u64 x.f0.f1) ∧ W1.cell? ⟨(ad.add (k * 6)).block, (ad.add (k * 6)).off + 2, none⟩ = some (.int .u64 x.f1) ∧ W1.cell? ⟨(ad.add (k * 6)).block, (ad.add (k * 6)).off + 3, none⟩ = some (.int .u64 x.f2) ∧ W1.cell? ⟨(ad.add (k * 6)).block, (ad.add (k * 6)).off + 4, none⟩ = some (.slice X4 x.f3.length Xc4) ∧ W1.cell? ⟨(ad.add (k * 6)).block, (ad.add (k * 6)).off + 5, none⟩ = some (.slice X5 x.f4.length Xc5) ∧ W1.cell? (ad.add (i * 6)) = some (.int .u64 y.f0.f0) ∧ W1.cell? ⟨(ad.add (i * 6)).block, (ad.add (i * 6)).off + 1, none⟩ = some (.int .u64 y.f0.f1) ∧ W1.cell? ⟨(ad.add (i * 6)).block, (ad.add (i * 6)).off + 2, none⟩ = some (.int .u64 y.f1) ∧ W1.cell? ⟨(ad.add (i * 6)).block, (ad.add (i * 6)).off + 3, none⟩ = some (.int .u64 y.f2) ∧ W1.cell? ⟨(ad.add (i * 6)).block, (ad.add (i * 6)).off + 4, none⟩ = some (.slice Y4 y.f3.length Yc4) ∧ W1.cell? ⟨(ad.add (i * 6)).block, (ad.add (i * 6)).off + 5, none⟩ = some (.slice Y5 y.f4.length Yc5) ∧ (Instr.lookup 45 (.map (some bm)) (.int .i64 (k : Int)) false).run Try.prog W1 = .ok (.bool false) W1 ∧ Fr l (some ad) c bl bt bm n S w W1 :=
  have c : ∀ {a : Addr} {v : Value}, W.cell? a = some v → W1.cell? a = some v := fun {a v} e => (hb.cell (World.block_lt_of_cell? W _ e)).trans e
  ⟨c h.1, c h.2.1, c h.2.2.1, c h.2.2.2.1, c h.2.2.2.2.1, c h.2.2.2.2.2.1, c h.2.2.2.2.2.2.1, c h.2.2.2.2.2.2.2.1, c h.2.2.2.2.2.2.2.2.1, c h.2.2.2.2.2.2.2.2.2.1, c h.2.2.2.2.2.2.2.2.2.2.1, c h.2.2.2.2.2.2.2.2.2.2.2.1, c h.2.2.2.2.2.2.2.2.2.2.2.2.1, c h.2.2.2.2.2.2.2.2.2.2.2.2.2.1, hS ▸ look45 (h.2.2.2.2.2.2.2.2.2.2.2.2.2.2.2.below hb).s (k : Int) hk, h.2.2.2.2.2.2.2.2.2.2.2.2.2.2.2.below hb⟩
theorem fbel {l : List S27} {ad : Addr} {c bl bt bm n k i : Nat} {S : Int → Bool} {x y : S27} {X4 X5 Y4 Y5 : Option Addr} {Xc4 Xc5 Yc4 Yc5 : Nat} {w W : World} (h : W.cell? ⟨bl, 0, none⟩ = some (.slice (some ad) l.length c) ∧ W.cell? ⟨bt, 0, none⟩ = some (.map (some bm)) ∧ W.cell? (ad.add (k * 6)) = some (.int .u64 x.f0.f0) ∧ W.cell? ⟨(ad.add (k * 6)).block, (ad.add (k * 6)).off + 1, none⟩ = some (.int .u64 x.f0.f1) ∧ W.cell? ⟨(ad.add (k * 6)).block, (ad.add (k * 6)).off + 2, none⟩ = some (.int .u64 x.f1) ∧ W.cell? ⟨(ad.add (k * 6)).block, (ad.add (k * 6)).off + 3, none⟩ = some (.int .u64 x.f2) ∧ W.cell? ⟨(ad.add (k * 6)).block, (ad.add (k * 6)).off + 4, none⟩ = some (.slice X4 x.f3.length Xc4) ∧ W.cell? ⟨(ad.add (k * 6)).block, (ad.add (k * 6)).off + 5, none⟩ = some (.slice X5 x.f4.length Xc5) ∧ W.cell? (ad.add (i * 6)) = some (.int .u64 y.f0.f0) ∧ W.cell? ⟨(ad.add (i * 6)).block, (ad.add (i * 6)).off + 1, none⟩ = some (.int .u64 y.f0.f1) ∧ W.cell? ⟨(ad.add (i * 6)).block, (ad.add (i * 6)).off + 2, none⟩ = some (.int .u64 y.f1) ∧ W.cell? ⟨(ad.add (i * 6)).block, (ad.add (i * 6)).off + 3, none⟩ = some (.int .u64 y.f2) ∧ W.cell? ⟨(ad.add (i * 6)).block, (ad.add (i * 6)).off + 4, none⟩ = some (.slice Y4 y.f3.length Yc4) ∧ W.cell? ⟨(ad.add (i * 6)).block, (ad.add (i * 6)).off + 5, none⟩ = some (.slice Y5 y.f4.length Yc5) ∧ (Instr.lookup 45 (.map (some bm)) (.int .i64 (k : Int)) false).run Try.prog W = .ok (.bool false) W ∧ Fr l (some ad) c bl bt bm n S w W) : Fr l (some ad) c bl bt bm n S w W := h.2.2.2.2.2.2.2.2.2.2.2.2.2.2.2
set_option maxHeartbeats 8000000 in
set_option maxRecDepth 100000 in
theorem free_20 (A : Option Addr) (c : Nat) (l : List S27) (i : Nat) (hi : i < l.length) (S : Int → Bool) (bl bt bm n : Nat) (w : World) (hF : Fr l A c bl bt bm n S w w) (hr : Kd.C k27 w A l.length l) (hL : l.length ≤ 64) :
    Calls Try.prog 20 #[.int .i64 (i : Int), .pointer (some ⟨bl, 0, none⟩), .pointer (some ⟨bt, 0, none⟩)] w fun e w' => e = .returned (.bool (freeB l S i)) ∧ Below w.heap.size w w' := by
  have HR := Aside0.mk hr
  have HF := Aside0.mk hF
  have HLL := Aside0.mk hL
  have HL : l.length ≤ 9223372036854775807 := by omega
  have b0 := blk_cell hF.kl 0
  have z0 := blk_lt hF.kl
  obtain ⟨ad, rfl, f0⟩ : ∃ ad, A = some ad ∧ True := by
    obtain ⟨ad, _, _, _, _, e, _⟩ := at_T27 hr (i : Int) (by omega) (by omega)
    exact ⟨ad, e, trivial⟩
  obtain ⟨ad', Y4, Yc4, Y5, Yc5, e', y0, y1, y2, y3, y4, y5, gy1, gy2, gy3, gy4⟩ := at_T27 hr (i : Int) (by omega) (by omega)
  obtain rfl := Option.some.inj e'
  clear e' hr hF f0
  simp only [Int.toNat_natCast] at y0 y1 y2 y3 y4 y5
  obtain ⟨y, hy⟩ : ∃ y, rd_T27 l (i : Int) = y := ⟨_, rfl⟩
  have HY := Aside0.mk hy
  rw [hy] at y0 y1 y2 y3 y4 y5 gy1 gy2 gy3 gy4
  clear hy
  have HY0 := Aside0.mk (And.intro y0 (And.intro y1 (And.intro y2 (And.intro y3 (And.intro y4 y5)))))
  have HG := Aside0.mk (And.intro gy1 (And.intro gy2 (And.intro gy3 gy4)))
  clear y0 y1 y2 y3 y4 y5 gy1 gy2 gy3 gy4
  go_enter Try.func20, Try.ntmps20
  go_wp2_with fail
  go_loopg [8] l.length (fun g v8 wr => ∃ (k : Nat), v8 = .int .i64 (k : Int) ∧ Aside0 (k ≤ l.length ∧ l.length - k ≤ g) ∧ Aside0 (∀ j, j < k → hindB l S i j = false) ∧ Aside0 (Fr l (some ad) c bl bt bm n S w wr))
  case atStart => exact ⟨0, rfl, ⟨by omega⟩, ⟨fun j hj => by omega⟩, HF⟩
  case round =>
    clear HF b0 z0
    obtain ⟨k, rfl, HI, HT, HK⟩ := hrel
    by_cases hlt : (k : Int) < l.length
    · have hltb := decide_eq_true hlt
      have hkl : k < l.length := by omega
      obtain ⟨ad', X4, Xc4, X5, Xc5, e', x0, x1, x2, x3, x4, x5, gx1, gx2, gx3, gx4⟩ := at_T27 HR.out (k : Int) (by omega) hlt
      obtain rfl := Option.some.inj e'
      clear e'
      simp only [Int.toNat_natCast] at x0 x1 x2 x3 x4 x5
      obtain ⟨x, hx⟩ : ∃ x, rd_T27 l (k : Int) = x := ⟨_, rfl⟩
      have HX := Aside0.mk hx
      rw [hx] at x0 x1 x2 x3 x4 x5 gx1 gx2 gx3 gx4
      clear hx
      have b0 := blk_cell HK.out.kl 0
      have b1 := blk_cell HK.out.kt 0
      have z0 := blk_lt HK.out.kl
      have z1 := blk_lt HK.out.kt
      have hok := okI_of k (by have := HLL.out; omega)
      have HOK := Aside0.mk hok
      by_cases hki : k = i
      · subst hki
        have HB := Aside0.mk (show hindB l S k k = false by unfold hindB; simp)
        clear hok x0 x1 x2 x3 x4 x5 gx1 gx2 gx3 gx4
        go_wp2
        go_quiet (fail)
        go_wp2
        go_roundg (gk - 1)
        case measure => have := HI.out; omega
        case rel => exact ⟨k + 1, by go_num, ⟨by have := HI.out; omega⟩, ⟨fun j hj => by
          by_cases e : j = k
          · rw [e]; exact HB.out
          · exact HT.out j (by omega)⟩, ⟨HK.out.below (pw_below_drewN (Below.refl _ _) _)⟩⟩
      · have hkz : ¬ ((k : Int) = (i : Int)) := by omega
        have n1 : ((k : Int) == (i : Int)) = false := beq_eq_false_iff_ne.2 hkz
        have n2 : decide ((k : Int) = (i : Int)) = false := decide_eq_false hkz
        have n3 : ((k : Int) != (i : Int)) = true := bne_iff_ne.2 hkz
        cases hS : S (k : Int) with
        | true =>
          have HB := Aside0.mk (show hindB l S i k = false by unfold hindB; rw [hS]; simp)
          have l1 := look45 HK.out.s (k : Int) hok
          have l2 := look45 HK.out.drew.s (k : Int) hok
          rw [hS] at l1 l2
          clear hok hS x0 x1 x2 x3 x4 x5 gx1 gx2 gx3 gx4
          go_wp2
          refine wp_region_held_drew (S := fun W' => W'.cell? ⟨bl, 0, none⟩ = some (.slice (some ad) l.length c) ∧ W'.cell? ⟨bt, 0, none⟩ = some (.map (some bm)) ∧ (Instr.lookup 45 (.map (some bm)) (.int .i64 (k : Int)) false).run Try.prog W' = .ok (.bool true) W' ∧ Fr l (some ad) c bl bt bm n S w W') (by kernel_rfl) ⟨blk_cell HK.out.drew.kl 0, blk_cell HK.out.drew.kt 0, l2, HK.out.drew⟩ (fun hHeld => ?_)
          refine wpAnyH_take (i := 0) (oi := { dst := some 11, op := Op.move (Operand.tmp 5), type := 3, pos := "serial.go:42", after := #[], guard := none }) (v := .int .i64 (k : Int)) rfl (by kernel_rfl) (by kernel_rfl) (by kernel_rfl) (fun _ _ _ h => h) (Or.inl ⟨by rfl, ?_⟩) (by assumption) ?_
          · intro w hSw
            try dsimp only at hSw
            go_simp
            try with_reducible rfl
          try simp only [Act.put, List.setIfInBounds_toArray, List.set_cons_zero, List.set_cons_succ]
          refine wpAnyH_take (i := 1) (oi := { dst := some 12, op := Op.move (Operand.tmp 0), type := 3, pos := "serial.go:42", after := #[], guard := none }) (v := .int .i64 (i : Int)) rfl (by kernel_rfl) (by kernel_rfl) (by kernel_rfl) (fun _ _ _ h => h) (Or.inl ⟨by rfl, ?_⟩) (by assumption) ?_
          · intro w hSw
            try dsimp only at hSw
            go_simp
            try with_reducible rfl
          try simp only [Act.put, List.setIfInBounds_toArray, List.set_cons_zero, List.set_cons_succ]
          refine wpAnyH_take (i := 2) (oi := { dst := some 13, op := Op.binOp BinOp.neq 3 (Operand.tmp 11) (Operand.tmp 12) 3, type := 4, pos := "serial.go:42", after := #[{ on := 0, ground := Ground.data }, { on := 1, ground := Ground.data }], guard := none }) (v := .bool true) rfl (by kernel_rfl) (by kernel_rfl) (by kernel_rfl) (fun _ _ _ h => h) (Or.inl ⟨by rfl, ?_⟩) (by assumption) ?_
          · intro w hSw
            try dsimp only at hSw
            go_simp
            try with_reducible rfl
          try simp only [Act.put, List.setIfInBounds_toArray, List.set_cons_zero, List.set_cons_succ]
          refine wpAnyH_take (i := 3) (oi := { dst := some 14, op := Op.move (Operand.tmp 13), type := 4, pos := "serial.go:42", after := #[{ on := 2, ground := Ground.data }], guard := none }) (v := .bool true) rfl (by kernel_rfl) (by kernel_rfl) (by kernel_rfl) (fun _ _ _ h => h) (Or.inl ⟨by rfl, ?_⟩) (by assumption) ?_
          · intro w hSw
            try dsimp only at hSw
            go_simp
            try with_reducible rfl
          try simp only [Act.put, List.setIfInBounds_toArray, List.set_cons_zero, List.set_cons_succ]
          refine wpAnyH_take (i := 4) (oi := { dst := some 15, op := Op.load 45 (Operand.tmp 2), type := 45, pos := "serial.go:42", after := #[{ on := 3, ground := Ground.guard }], guard := some (3, true) }) (v := .map (some bm)) rfl (by kernel_rfl) (by kernel_rfl) (by kernel_rfl) (fun _ _ _ h => h) (Or.inl ⟨by rfl, ?_⟩) (by assumption) ?_
          · intro w hSw
            try dsimp only at hSw
            go_simp
            try with_reducible rfl
          try simp only [Act.put, List.setIfInBounds_toArray, List.set_cons_zero, List.set_cons_succ]
          refine wpAnyH_take (i := 5) (oi := { dst := some 16, op := Op.move (Operand.tmp 5), type := 3, pos := "serial.go:42", after := #[{ on := 3, ground := Ground.guard }], guard := some (3, true) }) (v := .int .i64 (k : Int)) rfl (by kernel_rfl) (by kernel_rfl) (by kernel_rfl) (fun _ _ _ h => h) (Or.inl ⟨by rfl, ?_⟩) (by assumption) ?_
          · intro w hSw
            try dsimp only at hSw
            go_simp
            try with_reducible rfl
          try simp only [Act.put, List.setIfInBounds_toArray, List.set_cons_zero, List.set_cons_succ]
          refine wpAnyH_take (i := 6) (oi := { dst := some 17, op := Op.lookup 45 (Operand.tmp 15) (Operand.tmp 16) false, type := 4, pos := "serial.go:42", after := #[{ on := 4, ground := Ground.data }, { on := 5, ground := Ground.data }, { on := 3, ground := Ground.guard }], guard := some (3, true) }) (v := .bool true) rfl (by kernel_rfl) (by kernel_rfl) (by kernel_rfl) (fun _ _ _ h => h) (Or.inl ⟨by rfl, ?_⟩) (by assumption) ?_
          · intro w hSw
            try dsimp only at hSw
            go_simp
            try with_reducible rfl
          try simp only [Act.put, List.setIfInBounds_toArray, List.set_cons_zero, List.set_cons_succ]
          refine wpAnyH_take (i := 7) (oi := { dst := some 18, op := Op.unOp UnOp.not 4 (Operand.tmp 17), type := 4, pos := "serial.go:42", after := #[{ on := 6, ground := Ground.data }, { on := 3, ground := Ground.guard }], guard := some (3, true) }) (v := .bool false) rfl (by kernel_rfl) (by kernel_rfl) (by kernel_rfl) (fun _ _ _ h => h) (Or.inl ⟨by rfl, ?_⟩) (by assumption) ?_
          · intro w hSw
            try dsimp only at hSw
            go_simp
            try with_reducible rfl
          try simp only [Act.put, List.setIfInBounds_toArray, List.set_cons_zero, List.set_cons_succ]
          refine wpAnyH_take (i := 8) (oi := { dst := some 19, op := Op.pick (Operand.tmp 14) (Operand.tmp 18) (Operand.const (Value.bool false)), type := 4, pos := "serial.go:42", after := #[{ on := 3, ground := Ground.data }, { on := 7, ground := Ground.data }], guard := none }) (v := .bool false) rfl (by kernel_rfl) (by kernel_rfl) (by kernel_rfl) (fun _ _ _ h => h) (Or.inl ⟨by rfl, ?_⟩) (by assumption) ?_
          · intro w hSw
            try dsimp only at hSw
            go_simp
            try with_reducible rfl
          try simp only [Act.put, List.setIfInBounds_toArray, List.set_cons_zero, List.set_cons_succ]
          refine wpAnyH_take (i := 9) (oi := { dst := some 20, op := Op.move (Operand.tmp 19), type := 4, pos := "serial.go:42", after := #[{ on := 8, ground := Ground.data }, { on := 3, ground := Ground.chain }], guard := none }) (v := .bool false) rfl (by kernel_rfl) (by kernel_rfl) (by kernel_rfl) (fun _ _ _ h => h) (Or.inl ⟨by rfl, ?_⟩) (by assumption) ?_
          · intro w hSw
            try dsimp only at hSw
            go_simp
            try with_reducible rfl
          try simp only [Act.put, List.setIfInBounds_toArray, List.set_cons_zero, List.set_cons_succ]
          refine wpAnyH_take (i := 10) (oi := { dst := some 21, op := Op.load 30 (Operand.tmp 1), type := 30, pos := "serial.go:42", after := #[{ on := 9, ground := Ground.guard }], guard := some (9, true) }) (v := undef) rfl (by kernel_rfl) (by kernel_rfl) (by kernel_rfl) (fun _ _ _ h => h) (Or.inr ⟨by rfl, rfl⟩) (by assumption) ?_
          try simp only [Act.put, List.setIfInBounds_toArray, List.set_cons_zero, List.set_cons_succ]
          refine wpAnyH_take (i := 11) (oi := { dst := some 22, op := Op.move (Operand.tmp 5), type := 3, pos := "serial.go:42", after := #[{ on := 9, ground := Ground.guard }], guard := some (9, true) }) (v := undef) rfl (by kernel_rfl) (by kernel_rfl) (by kernel_rfl) (fun _ _ _ h => h) (Or.inr ⟨by rfl, rfl⟩) (by assumption) ?_
          try simp only [Act.put, List.setIfInBounds_toArray, List.set_cons_zero, List.set_cons_succ]
          refine wpAnyH_take (i := 12) (oi := { dst := some 23, op := Op.indexAddr 30 (Operand.tmp 21) (Operand.tmp 22), type := 0, pos := "serial.go:42", after := #[{ on := 10, ground := Ground.data }, { on := 11, ground := Ground.data }, { on := 9, ground := Ground.guard }], guard := some (9, true) }) (v := undef) rfl (by kernel_rfl) (by kernel_rfl) (by kernel_rfl) (fun _ _ _ h => h) (Or.inr ⟨by rfl, rfl⟩) (by assumption) ?_
          try simp only [Act.put, List.setIfInBounds_toArray, List.set_cons_zero, List.set_cons_succ]
          refine wpAnyH_take (i := 13) (oi := { dst := some 24, op := Op.load 27 (Operand.tmp 23), type := 27, pos := "serial.go:42", after := #[{ on := 12, ground := Ground.data }, { on := 9, ground := Ground.guard }], guard := some (9, true) }) (v := undef) rfl (by kernel_rfl) (by kernel_rfl) (by kernel_rfl) (fun _ _ _ h => h) (Or.inr ⟨by rfl, rfl⟩) (by assumption) ?_
          try simp only [Act.put, List.setIfInBounds_toArray, List.set_cons_zero, List.set_cons_succ]
          refine wpAnyH_take (i := 14) (oi := { dst := some 25, op := Op.load 30 (Operand.tmp 1), type := 30, pos := "serial.go:42", after := #[{ on := 9, ground := Ground.guard }], guard := some (9, true) }) (v := undef) rfl (by kernel_rfl) (by kernel_rfl) (by kernel_rfl) (fun _ _ _ h => h) (Or.inr ⟨by rfl, rfl⟩) (by assumption) ?_
          try simp only [Act.put, List.setIfInBounds_toArray, List.set_cons_zero, List.set_cons_succ]
          refine wpAnyH_take (i := 15) (oi := { dst := some 26, op := Op.move (Operand.tmp 0), type := 3, pos := "serial.go:42", after := #[{ on := 9, ground := Ground.guard }], guard := some (9, true) }) (v := undef) rfl (by kernel_rfl) (by kernel_rfl) (by kernel_rfl) (fun _ _ _ h => h) (Or.inr ⟨by rfl, rfl⟩) (by assumption) ?_
          try simp only [Act.put, List.setIfInBounds_toArray, List.set_cons_zero, List.set_cons_succ]
          refine wpAnyH_take (i := 16) (oi := { dst := some 27, op := Op.indexAddr 30 (Operand.tmp 25) (Operand.tmp 26), type := 0, pos := "serial.go:42", after := #[{ on := 14, ground := Ground.data }, { on := 15, ground := Ground.data }, { on := 9, ground := Ground.guard }], guard := some (9, true) }) (v := undef) rfl (by kernel_rfl) (by kernel_rfl) (by kernel_rfl) (fun _ _ _ h => h) (Or.inr ⟨by rfl, rfl⟩) (by assumption) ?_
          try simp only [Act.put, List.setIfInBounds_toArray, List.set_cons_zero, List.set_cons_succ]
          refine wpAnyH_take (i := 17) (oi := { dst := some 28, op := Op.load 27 (Operand.tmp 27), type := 27, pos := "serial.go:42", after := #[{ on := 16, ground := Ground.data }, { on := 9, ground := Ground.guard }], guard := some (9, true) }) (v := undef) rfl (by kernel_rfl) (by kernel_rfl) (by kernel_rfl) (fun _ _ _ h => h) (Or.inr ⟨by rfl, rfl⟩) (by assumption) ?_
          try simp only [Act.put, List.setIfInBounds_toArray, List.set_cons_zero, List.set_cons_succ]
          refine wpAnyH_take (i := 18) (oi := { dst := some 29, op := Op.call { callee := Callee.value (Operand.func 10), args := #[Operand.tmp 24, Operand.tmp 28], argTypes := #[27, 27] }, type := 4, pos := "serial.go:42", after := #[{ on := 13, ground := Ground.data }, { on := 17, ground := Ground.data }, { on := 9, ground := Ground.chain }, { on := 9, ground := Ground.guard }], guard := some (9, true) }) (v := undef) rfl (by kernel_rfl) (by kernel_rfl) (by kernel_rfl) (fun _ _ _ h => h) (Or.inr ⟨by rfl, rfl⟩) (by assumption) ?_
          try simp only [Act.put, List.setIfInBounds_toArray, List.set_cons_zero, List.set_cons_succ]
          refine wpAnyH_take (i := 19) (oi := { dst := some 30, op := Op.pick (Operand.tmp 20) (Operand.tmp 29) (Operand.const (Value.bool false)), type := 4, pos := "serial.go:42", after := #[{ on := 9, ground := Ground.data }, { on := 18, ground := Ground.data }], guard := none }) (v := .bool false) rfl (by kernel_rfl) (by kernel_rfl) (by kernel_rfl) (fun _ _ _ h => h) (Or.inl ⟨by rfl, ?_⟩) (by assumption) ?_
          · intro w hSw
            try dsimp only at hSw
            go_simp
            try with_reducible rfl
          try simp only [Act.put, List.setIfInBounds_toArray, List.set_cons_zero, List.set_cons_succ]
          refine wpAnyH_done (by kernel_rfl) ?_ _
          have HE := Aside0.mk hHeld.2.2.2
          clear hHeld
          go_wp2
          go_roundg (gk - 1)
          case measure => have := HI.out; omega
          case rel => exact ⟨k + 1, by go_num, ⟨by have := HI.out; omega⟩, ⟨fun j hj => by
            by_cases e : j = k
            · rw [e]; exact HB.out
            · exact HT.out j (by omega)⟩, HE⟩
        | false =>
          have HS := Aside0.mk hS
          have H10 := Aside0.mk (fun W (hb : Below w.heap.size w W) => serial_Ahead.calls x.f0.f0 x.f0.f1 x.f1 x.f2 X4 Xc4 x.f3 X5 Xc5 x.f4 y.f0.f0 y.f0.f1 y.f1 y.f2 Y4 Yc4 y.f3 Y5 Yc5 y.f4 (aheadB x y) W (Kd.C_below gx2 hb) gx1 (Kd.C_below gx4 hb) gx3 (Kd.C_below HG.out.2.1 hb) HG.out.1 (Kd.C_below HG.out.2.2.2 hb) HG.out.2.2.1 rfl)
          have l1 := look45 HK.out.drew.s (k : Int) hok
          rw [hS] at l1
          have HBEL := Aside0.mk HK.out.drew.bel
          have HSS : Aside0 (wr.drew.cell? ⟨bl, 0, none⟩ = some (.slice (some ad) l.length c) ∧ wr.drew.cell? ⟨bt, 0, none⟩ = some (.map (some bm)) ∧ wr.drew.cell? (ad.add (k * 6)) = some (.int .u64 x.f0.f0) ∧ wr.drew.cell? ⟨(ad.add (k * 6)).block, (ad.add (k * 6)).off + 1, none⟩ = some (.int .u64 x.f0.f1) ∧ wr.drew.cell? ⟨(ad.add (k * 6)).block, (ad.add (k * 6)).off + 2, none⟩ = some (.int .u64 x.f1) ∧ wr.drew.cell? ⟨(ad.add (k * 6)).block, (ad.add (k * 6)).off + 3, none⟩ = some (.int .u64 x.f2) ∧ wr.drew.cell? ⟨(ad.add (k * 6)).block, (ad.add (k * 6)).off + 4, none⟩ = some (.slice X4 x.f3.length Xc4) ∧ wr.drew.cell? ⟨(ad.add (k * 6)).block, (ad.add (k * 6)).off + 5, none⟩ = some (.slice X5 x.f4.length Xc5) ∧ wr.drew.cell? (ad.add (i * 6)) = some (.int .u64 y.f0.f0) ∧ wr.drew.cell? ⟨(ad.add (i * 6)).block, (ad.add (i * 6)).off + 1, none⟩ = some (.int .u64 y.f0.f1) ∧ wr.drew.cell? ⟨(ad.add (i * 6)).block, (ad.add (i * 6)).off + 2, none⟩ = some (.int .u64 y.f1) ∧ wr.drew.cell? ⟨(ad.add (i * 6)).block, (ad.add (i * 6)).off + 3, none⟩ = some (.int .u64 y.f2) ∧ wr.drew.cell? ⟨(ad.add (i * 6)).block, (ad.add (i * 6)).off + 4, none⟩ = some (.slice Y4 y.f3.length Yc4) ∧ wr.drew.cell? ⟨(ad.add (i * 6)).block, (ad.add (i * 6)).off + 5, none⟩ = some (.slice Y5 y.f4.length Yc5) ∧ (Instr.lookup 45 (.map (some bm)) (.int .i64 (k : Int)) false).run Try.prog wr.drew = .ok (.bool false) wr.drew ∧ Fr l (some ad) c bl bt bm n S w wr.drew) := by
            have c : ∀ {a : Addr} {v : Value}, w.cell? a = some v → wr.drew.cell? a = some v := fun {a v} e => (HBEL.out.cell (World.block_lt_of_cell? w _ e)).trans e
            exact ⟨⟨blk_cell HK.out.drew.kl 0, blk_cell HK.out.drew.kt 0, c x0, c x1, c x2, c x3, c x4, c x5, c HY0.out.1, c HY0.out.2.1, c HY0.out.2.2.1, c HY0.out.2.2.2.1, c HY0.out.2.2.2.2.1, c HY0.out.2.2.2.2.2, l1, HK.out.drew⟩⟩
          clear hok hS x0 x1 x2 x3 x4 x5 gx1 gx2 gx3 gx4 l1
          obtain ⟨q, hq⟩ : ∃ q, aheadB x y = q := ⟨_, rfl⟩
          have HQ := Aside0.mk (show hindB l S i k = q by unfold hindB; rw [HS.out, HX.out, HY.out, hq, decide_eq_false hki]; cases q <;> rfl)
          rw [hq] at H10
          clear hq
          go_wp2
          (go_region_held3 (fun W' => W'.cell? ⟨bl, 0, none⟩ = some (.slice (some ad) l.length c) ∧ W'.cell? ⟨bt, 0, none⟩ = some (.map (some bm)) ∧ W'.cell? (ad.add (k * 6)) = some (.int .u64 x.f0.f0) ∧ W'.cell? ⟨(ad.add (k * 6)).block, (ad.add (k * 6)).off + 1, none⟩ = some (.int .u64 x.f0.f1) ∧ W'.cell? ⟨(ad.add (k * 6)).block, (ad.add (k * 6)).off + 2, none⟩ = some (.int .u64 x.f1) ∧ W'.cell? ⟨(ad.add (k * 6)).block, (ad.add (k * 6)).off + 3, none⟩ = some (.int .u64 x.f2) ∧ W'.cell? ⟨(ad.add (k * 6)).block, (ad.add (k * 6)).off + 4, none⟩ = some (.slice X4 x.f3.length Xc4) ∧ W'.cell? ⟨(ad.add (k * 6)).block, (ad.add (k * 6)).off + 5, none⟩ = some (.slice X5 x.f4.length Xc5) ∧ W'.cell? (ad.add (i * 6)) = some (.int .u64 y.f0.f0) ∧ W'.cell? ⟨(ad.add (i * 6)).block, (ad.add (i * 6)).off + 1, none⟩ = some (.int .u64 y.f0.f1) ∧ W'.cell? ⟨(ad.add (i * 6)).block, (ad.add (i * 6)).off + 2, none⟩ = some (.int .u64 y.f1) ∧ W'.cell? ⟨(ad.add (i * 6)).block, (ad.add (i * 6)).off + 3, none⟩ = some (.int .u64 y.f2) ∧ W'.cell? ⟨(ad.add (i * 6)).block, (ad.add (i * 6)).off + 4, none⟩ = some (.slice Y4 y.f3.length Yc4) ∧ W'.cell? ⟨(ad.add (i * 6)).block, (ad.add (i * 6)).off + 5, none⟩ = some (.slice Y5 y.f4.length Yc5) ∧ (Instr.lookup 45 (.map (some bm)) (.int .i64 (k : Int)) false).run Try.prog W' = .ok (.bool false) W' ∧ Fr l (some ad) c bl bt bm n S w W') (first | (exact HSS.out) | (refine fkeep HOK.out HS.out ?_ hb; assumption) | go_keep)
            (first | (go_at_call 10; refine (H10.out _ ?hB).mono ?_; (case hB => exact (fbel (by assumption)).bel); rintro e w1 ⟨rfl, hb⟩)))
          have HE := Aside0.mk (fbel (l := l) (ad := ad) (c := c) (bl := bl) (bt := bt) (bm := bm) (n := n) (k := k) (i := i) (S := S) (x := x) (y := y) (w := w) (by assumption))
          cases q with
          | true =>
            go_wp2
            go_ret
            refine ⟨?_, HE.out.bel⟩
            rw [free_no k hkl HQ.out]
            rfl
          | false =>
            go_wp2
            go_roundg (gk - 1)
            case measure => have := HI.out; omega
            case rel => exact ⟨k + 1, by go_num, ⟨by have := HI.out; omega⟩, ⟨fun j hj => by
              by_cases e : j = k
              · rw [e]; exact HQ.out
              · exact HT.out j (by omega)⟩, HE⟩
    · have hltb := decide_eq_false hlt
      go_wp2
      go_ret
      refine ⟨?_, HK.out.bel⟩
      rw [free_yes (fun k' hk => HT.out k' (by have := HI.out; omega))]
      rfl
end Go.Proofs.Ytbadlkhelhomjaa.Pr
