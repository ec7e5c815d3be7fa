/- The closures of lock: what they answer. Conditions: none. -/
import Derived.Test.YtgmflfbhifdacaaPr0
import Derived.Test.YtgmflfbhifdacaaHnd
import Derived.Test.YtgmflfbhifdacaaMapB
namespace Go.Proofs.Ytgmflfbhifdacaa.Pr
open Go.RowKit Go.Proofs.YtgmflfbhifdacaaW.PrintWords Go.Proofs.YtgmflfbhifdacaaW.PrintLast Go.Proofs.YtgmflfbhifdacaaW.PrintMore
open Go.Proofs.Ytgmflfbhifdacaa.Hnd
attribute [local go_sem] setCell_drewN_ alloc_drewN_
set_option linter.unusedVariables false
set_option linter.unusedSimpArgs false
theorem blk_newAt {W : World} {o : Obj} (n : Nat) (hn : W.heap.size = n) : (W.alloc o).heap[n]? = some o := hn ▸ blk_new W o
/-- Are two transactions one? Are two strings? -/
def txB (a b : S25) : Bool := a.f0 == b.f0 && a.f1 == b.f1
def stB (a b : ByteArray) : Bool := a.toList == b.toList
theorem eqS25 (d : Nat) (w : World) (x0 y0 : Int) (x1 y1 : Int) :
    (Op.equalIn (d + 2) 25 (.agg #[.int .u64 x0, .int .u64 x1]) (.agg #[.int .u64 y0, .int .u64 y1])).run Try.prog w = .ok (x0 == y0 && (x1 == y1)) w := by
  refine eqA_of Try.underlying25 (by kernel_rfl) ?_
  refine eqf_cons (by rfl) (by go_simp; rfl) (by go_simp; rfl) (by go_simp) ?_
  exact eqf_last (by rfl) (by go_simp; rfl) (by go_simp; rfl) (by go_simp)
attribute [local go_sem high] eqS25
def p34 (t : S25) (key : ByteArray) (x : S40) : Bool := txB x.f1 t && stB x.f0 key
set_option maxHeartbeats 1000000 in
theorem cl34 (x : S40) (t : S25) (key : ByteArray) (bt bk : Nat) (w : World) (ht : w.heap[bt]? = some (.cells #[.int .u64 t.f0, .int .u64 t.f1] 25 (0, 0))) (hk : w.heap[bk]? = some (.cells #[.string key] 9 (0, 0))) :
    Calls Try.prog 34 #[.agg #[.string x.f0, .int .u64 x.f1.f0, .int .u64 x.f1.f1, .bool x.f2], .pointer (some ⟨bt, 0, none⟩), .pointer (some ⟨bk, 0, none⟩)] w fun e w' => e = .returned (.bool (p34 t key x)) ∧ Below w.heap.size w w' := by
  have t0 := blk_cell ht 0
  have t1 := blk_cell ht 1
  have k0 := blk_cell hk 0
  have z1 := blk_lt ht
  have z2 := blk_lt hk
  clear ht hk
  unfold p34
  cases hq : txB x.f1 t with
  | false =>
    have hq' : (x.f1.f0 == t.f0 && x.f1.f1 == t.f1) = false := hq
    go_enter Try.func34, Try.ntmps34
    go_wp2
    go_ret
    exact ⟨rfl, below_alloc (Below.refl _ _) _⟩
  | true =>
    have hq' : (x.f1.f0 == t.f0 && x.f1.f1 == t.f1) = true := hq
    obtain ⟨q, hs⟩ : ∃ q, stB x.f0 key = q := ⟨_, rfl⟩
    have hs' : (x.f0.toList == key.toList) = q := hs
    rw [hs]
    go_enter Try.func34, Try.ntmps34
    go_wp2
    go_ret
    exact ⟨rfl, below_alloc (Below.refl _ _) _⟩
def p29 (t : S25) (x : S40) : Bool := txB x.f1 t
set_option maxHeartbeats 1000000 in
theorem cl29 (x : S40) (t : S25) (bt : Nat) (w : World) (ht : w.heap[bt]? = some (.cells #[.int .u64 t.f0, .int .u64 t.f1] 25 (0, 0))) :
    Calls Try.prog 29 #[.agg #[.string x.f0, .int .u64 x.f1.f0, .int .u64 x.f1.f1, .bool x.f2], .pointer (some ⟨bt, 0, none⟩)] w fun e w' => e = .returned (.bool (p29 t x)) ∧ Below w.heap.size w w' := by
  have t0 := blk_cell ht 0
  have t1 := blk_cell ht 1
  have z1 := blk_lt ht
  clear ht
  obtain ⟨q, hq⟩ : ∃ q, p29 t x = q := ⟨_, rfl⟩
  have hq' : (x.f1.f0 == t.f0 && x.f1.f1 == t.f1) = q := hq
  rw [hq]
  go_enter Try.func29, Try.ntmps29
  go_wp2
  go_ret
  exact ⟨rfl, below_alloc (Below.refl _ _) _⟩
def p31 (t : S25) (key : ByteArray) (write : Bool) (x : S40) : Bool := txB x.f1 t && (stB x.f0 key && (x.f2 || !write))
set_option maxHeartbeats 1000000 in
theorem cl31 (x : S40) (t : S25) (key : ByteArray) (write : Bool) (bt bk bw : Nat) (w : World) (ht : w.heap[bt]? = some (.cells #[.int .u64 t.f0, .int .u64 t.f1] 25 (0, 0))) (hk : w.heap[bk]? = some (.cells #[.string key] 9 (0, 0))) (hw : w.heap[bw]? = some (.cells #[.bool write] 4 (0, 0))) :
    Calls Try.prog 31 #[.agg #[.string x.f0, .int .u64 x.f1.f0, .int .u64 x.f1.f1, .bool x.f2], .pointer (some ⟨bt, 0, none⟩), .pointer (some ⟨bk, 0, none⟩), .pointer (some ⟨bw, 0, none⟩)] w fun e w' => e = .returned (.bool (p31 t key write x)) ∧ Below w.heap.size w w' := by
  have t0 := blk_cell ht 0
  have t1 := blk_cell ht 1
  have k0 := blk_cell hk 0
  have w0 := blk_cell hw 0
  have z1 := blk_lt ht
  have z2 := blk_lt hk
  have z3 := blk_lt hw
  clear ht hk hw
  unfold p31
  obtain ⟨x0, ⟨x1, x2⟩, x3⟩ := x
  simp only
  cases hq : txB ⟨x1, x2⟩ t with
  | false =>
    have hq' : (x1 == t.f0 && x2 == t.f1) = false := hq
    go_enter Try.func31, Try.ntmps31
    go_wp2
    go_ret
    exact ⟨rfl, below_alloc (Below.refl _ _) _⟩
  | true =>
    have hq' : (x1 == t.f0 && x2 == t.f1) = true := hq
    cases hs : stB x0 key with
    | false =>
      have hs' : (x0.toList == key.toList) = false := hs
      go_enter Try.func31, Try.ntmps31
      go_wp2
      go_ret
      exact ⟨rfl, below_alloc (Below.refl _ _) _⟩
    | true =>
      have hs' : (x0.toList == key.toList) = true := hs
      cases x3 with
      | true =>
        go_enter Try.func31, Try.ntmps31
        go_wp2
        go_ret
        exact ⟨rfl, below_alloc (Below.refl _ _) _⟩
      | false =>
        go_enter Try.func31, Try.ntmps31
        go_wp2
        go_ret
        exact ⟨by simp, below_alloc (Below.refl _ _) _⟩
def wayB (h : S40) (t : S25) (key : ByteArray) (write : Bool) : Bool := stB h.f0 key && (!(txB h.f1 t) && (h.f2 || write))
def lock_inWay.f (a0_0 : ByteArray) (a0_1_0 a0_1_1 : Int) (a0_2 : Bool) (a1_0 a1_1 : Int) (a2 : ByteArray) (a3 : Bool) : Option Bool := some (wayB ⟨a0_0, ⟨a0_1_0, a0_1_1⟩, a0_2⟩ ⟨a1_0, a1_1⟩ a2 a3)
set_option maxHeartbeats 1000000 in
theorem lock_inWay.calls (a0_0 : ByteArray) (a0_1_0 a0_1_1 : Int) (a0_2 : Bool) (a1_0 a1_1 : Int) (a2 : ByteArray) (a3 : Bool) (r : Bool) (w : World) (h : lock_inWay.f a0_0 a0_1_0 a0_1_1 a0_2 a1_0 a1_1 a2 a3 = some r) :
    Calls Try.prog 25 #[.agg #[.string a0_0, .int .u64 a0_1_0, .int .u64 a0_1_1, .bool a0_2], .agg #[.int .u64 a1_0, .int .u64 a1_1], .string a2, .bool a3] w fun e w' => e = .returned (.bool r) ∧ Below w.heap.size w w' := by
  obtain rfl := Option.some.inj h
  clear h
  unfold wayB
  simp only
  cases hs : stB a0_0 a2 with
  | false =>
    have hs' : (a0_0.toList == a2.toList) = false := hs
    go_enter Try.func25, Try.ntmps25
    go_wp2
    go_ret
    exact ⟨rfl, below_alloc (below_alloc (Below.refl _ _) _) _⟩
  | true =>
    have hs' : (a0_0.toList == a2.toList) = true := hs
    cases hq : txB ⟨a0_1_0, a0_1_1⟩ ⟨a1_0, a1_1⟩ with
    | true =>
      have hq' : (a0_1_0 == a1_0 && a0_1_1 == a1_1) = true := hq
      go_enter Try.func25, Try.ntmps25
      go_wp2
      go_ret
      exact ⟨rfl, below_alloc (below_alloc (Below.refl _ _) _) _⟩
    | false =>
      have hq' : (a0_1_0 == a1_0 && a0_1_1 == a1_1) = false := hq
      cases a0_2 with
      | true =>
        go_enter Try.func25, Try.ntmps25
        go_wp2
        go_ret
        exact ⟨rfl, below_alloc (below_alloc (Below.refl _ _) _) _⟩
      | false =>
        go_enter Try.func25, Try.ntmps25
        go_wp2
        go_ret
        exact ⟨by simp, below_alloc (below_alloc (Below.refl _ _) _) _⟩
def p32 (h o : S40) : Bool := wayB o h.f1 h.f0 h.f2
set_option maxHeartbeats 1000000 in
theorem cl32 (x : S40) (h : S40) (bh : Nat) (w : World) (hh : w.heap[bh]? = some (.cells #[.string h.f0, .int .u64 h.f1.f0, .int .u64 h.f1.f1, .bool h.f2] 40 (0, 0))) :
    Calls Try.prog 32 #[.agg #[.string x.f0, .int .u64 x.f1.f0, .int .u64 x.f1.f1, .bool x.f2], .pointer (some ⟨bh, 0, none⟩)] w fun e w' => e = .returned (.bool (p32 h x)) ∧ Below w.heap.size w w' := by
  have h0 := blk_cell hh 0
  have h1 := blk_cell hh 1
  have h2 := blk_cell hh 2
  have h3 := blk_cell hh 3
  have z1 := blk_lt hh
  clear hh
  obtain ⟨q, hq⟩ : ∃ q, p32 h x = q := ⟨_, rfl⟩
  have HC := fun W => Aside0.mk (lock_inWay.calls x.f0 x.f1.f0 x.f1.f1 x.f2 h.f1.f0 h.f1.f1 h.f0 h.f2 q W (by rw [← hq]; rfl))
  rw [hq]
  clear hq
  go_enter Try.func32, Try.ntmps32
  go_wp2_with fail
  refine (HC _).out.mono ?_
  rintro e w1 ⟨rfl, hb⟩
  go_wp2
  go_ret
  exact ⟨rfl, below_call (below_alloc (Below.refl _ _) _) hb⟩
def elderB (a b : S25) : Bool := decide (a.f0 < b.f0) || (a.f0 == b.f0 && decide (a.f1 < b.f1))
def lock_Elder.f (a0_0 a0_1 a1_0 a1_1 : Int) : Option Bool := some (elderB ⟨a0_0, a0_1⟩ ⟨a1_0, a1_1⟩)
set_option maxHeartbeats 1000000 in
theorem lock_Elder.calls (a0_0 a0_1 a1_0 a1_1 : Int) (r : Bool) (w : World) (h : lock_Elder.f a0_0 a0_1 a1_0 a1_1 = some r) :
    Calls Try.prog 14 #[.agg #[.int .u64 a0_0, .int .u64 a0_1], .agg #[.int .u64 a1_0, .int .u64 a1_1]] w fun e w' => e = .returned (.bool r) ∧ Below w.heap.size w w' := by
  obtain rfl := Option.some.inj h
  clear h
  unfold elderB
  simp only
  by_cases c : a0_0 < a1_0
  · have cb := decide_eq_true c
    go_enter Try.func14, Try.ntmps14
    go_wp2
    go_ret
    exact ⟨by simp [c], below_alloc (below_alloc (Below.refl _ _) _) _⟩
  · have cb := decide_eq_false c
    by_cases d : a0_0 = a1_0
    · have db : (a0_0 == a1_0) = true := beq_iff_eq.mpr d
      subst d
      clear c
      go_enter Try.func14, Try.ntmps14
      go_wp2
      go_ret
      exact ⟨by simp, below_alloc (below_alloc (Below.refl _ _) _) _⟩
    · have db : (a0_0 == a1_0) = false := beq_eq_false_iff_ne.mpr d
      go_enter Try.func14, Try.ntmps14
      go_wp2
      go_ret
      exact ⟨by simp [c, db], below_alloc (below_alloc (Below.refl _ _) _) _⟩
/-- A transaction's key in a map. -/
def enc25 (x : S25) : Value := .agg #[.int .u64 x.f0, .int .u64 x.f1]
def okTx (x : S25) : Prop := (Lit.int .u64 x.f0).wf = true ∧ (Lit.int .u64 x.f1).wf = true
theorem enc25_inj (x y : S25) (h : enc25 x = enc25 y) : x = y := by
  cases x
  cases y
  simp [enc25] at h
  simp [h]
instance : DecidableEq S25 := fun a b => if h : a.f0 = b.f0 ∧ a.f1 = b.f1 then .isTrue (by cases a; cases b; simp at h; simp [h]) else .isFalse (by intro e; subst e; simp at h)
theorem laidOut : laidOutB Try.prog = true := by kernel_rfl
theorem keyed25 : Go.Maps.Keyed Try.prog 25 := Go.Maps.Keyed.of_law (deep_law_laid laidOut (m := 3) (by decide) (of_decide_eq_true (by kernel_rfl)) (by kernel_rfl) (by kernel_rfl))
theorem key25 (x : S25) (h : okTx x) : ∃ kl, keyOf Try.prog 25 (enc25 x) = some kl := by
  obtain ⟨h0, h1⟩ := h
  have kt : Try.prog.keyType 25 = true := by kernel_rfl
  have c25 : Try.prog.cellsOf 25 = 2 := by kernel_rfl
  have c23 : Try.prog.cellsOf 23 = 1 := by kernel_rfl
  have fm : (enc25 x).formed Try.prog 25 = true := by
    unfold enc25
    simp [Value.formed, Try.underlying25, c25]
  have e1 : ∀ d n, (Lit.int .u64 n).wf = true → Try.prog.keyLits (d + 1) 23 [.int .u64 n] = some [.int .u64 n] := fun d n hn => by
    simp [Program.keyLits, Try.underlying23, hn]
  have e2 : ∀ d, ∃ ls, Try.prog.keyLits (d + 2) 25 [.int .u64 x.f0, .int .u64 x.f1] = some ls := fun d => by
    unfold Program.keyLits
    rw [Try.underlying25]
    simp [c25, c23, e1 d _ h0, e1 d _ h1]
  obtain ⟨d, hd⟩ : ∃ d, Try.prog.types.size + 1 = d + 2 := ⟨Try.prog.types.size - 1, by have : 0 < Try.prog.types.size := of_decide_eq_true (by kernel_rfl); omega⟩
  obtain ⟨ls, hl⟩ := e2 d
  unfold keyOf
  rw [Try.underlying25]
  simp only [kt, fm, Bool.and_self, if_true, hd]
  unfold enc25
  simp only [Value.cells]
  rw [hl]
  exact ⟨_, rfl⟩
abbrev Set54 := MapB Try.prog 25 4 enc25 okTx
theorem zero4 (w : World) : (zeroValue 4).run Try.prog w = .ok (.bool false) w := by kernel_rfl
theorem look54 {w : World} {b n : Nat} {S : S25 → Bool} (h : Set54 w b n S) (x : S25) (hx : okTx x) : (Instr.lookup 54 (.map (some b)) (.agg #[.int .u64 x.f0, .int .u64 x.f1]) false).run Try.prog w = .ok (.bool (S x)) w := by
  obtain ⟨kl, hk⟩ := key25 x hx
  exact MapB.lookup h keyed25 Try.underlying54 Try.underlying4 (zero4 w) hx hk
set_option maxHeartbeats 1000000 in
theorem cl27 (x : S40) (bv bm n : Nat) (S : S25 → Bool) (hx : okTx x.f1) (w : World) (hv : w.heap[bv]? = some (.cells #[.map (some bm)] 54 (0, 0))) (hm : Set54 w bm n S) :
    Calls Try.prog 27 #[.agg #[.string x.f0, .int .u64 x.f1.f0, .int .u64 x.f1.f1, .bool x.f2], .pointer (some ⟨bv, 0, none⟩)] w fun e w' => e = .returned (.bool (S x.f1)) ∧ Below w.heap.size w w' := by
  have v0 := blk_cell hv 0
  have z1 := blk_lt hv
  have hl := look54 (MapB.alloc hm (.cells #[.string x.f0, .int .u64 x.f1.f0, .int .u64 x.f1.f1, .bool x.f2] 40)) x.f1 hx
  clear hv hm
  go_enter Try.func27, Try.ntmps27
  go_wp2
  go_ret
  exact ⟨rfl, below_alloc (Below.refl _ _) _⟩
end Go.Proofs.Ytgmflfbhifdacaa.Pr
