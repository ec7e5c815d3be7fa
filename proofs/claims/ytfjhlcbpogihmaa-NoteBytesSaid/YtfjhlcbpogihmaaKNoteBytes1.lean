/- Several texts of one depth, laid together. Conditions: none. -/
import Derived.Test.YtfjhlcbpogihmaaGNoteBytesPr0
import Derived.Test.YtfjhlcbpogihmaaKNoteBytes0
import Derived.BigQuiet
import Derived.Deep.RegionWith
import Derived.Laws.CopyOwn
import Derived.Deep.RegionHeld3
import Derived.Shelf.RegionOpenPlain
import Derived.Lib.Strings
import Derived.Lib.Slices
import Derived.Lib.Walk
import Derived.Lib.Builder
import Derived.Lib.AppendStr
import Derived.Lib.UnsafeStr
import Derived.Laws.Externs
import Derived.Laws.BitsLemmas
import Derived.Laws.Bits64
namespace Go.Proofs.Ytfjhlcbpogihmaa.Pr
open Go.RowKit Go.Proofs.YtfjhlcbpogihmaaW.PrintWords Go.Proofs.YtfjhlcbpogihmaaW.PrintLast Go.Proofs.YtfjhlcbpogihmaaW.PrintMore
set_option linter.unusedVariables false
/-- A stable state. -/
structure NSt where
  term : Int
  vote : Int
  base : Int
  bt : Int
  snap : ByteArray
  es : List S75
def nst0 : NSt := ⟨0, 0, 0, 0, ⟨#[]⟩, []⟩
def isNext (s : NSt) (n : S39) : Prop := n.f1 = s.base + s.es.length + 1 ∧ s.es.length < 1024 ∧ n.f1 ≤ 1099511627776
instance (s : NSt) (n : S39) : Decidable (isNext s n) := by unfold isNext; infer_instance
def hasAt (s : NSt) (n : S39) : Prop := n.f1 - s.base ≤ s.es.length ∧ (rd_T75 s.es (n.f1 - s.base - 1)).f0 = n.f2
instance (s : NSt) (n : S39) : Decidable (hasAt s n) := by unfold hasAt; infer_instance
def cutN (s : NSt) (n : S39) : Nat := if n.f1 > s.base then (n.f1 - s.base - 1).toNat else 0
/-- A state behind a snapshot. -/
def behindN (s : NSt) (n : S39) : NSt :=
  if n.f1 ≤ s.base ∨ n.f1 > 1099511627776 then s else { s with base := n.f1, bt := n.f2, snap := n.f4, es := if hasAt s n then s.es.drop (n.f1 - s.base).toNat else [] }
/-- A state behind one note more. -/
def stepN (s : NSt) (n : S39) : NSt :=
  if n.f0 = 1 then { s with term := n.f2, vote := n.f3 }
  else if n.f0 = 2 then (if isNext s n then { s with es := s.es ++ [⟨n.f2, n.f4⟩] } else s)
  else if n.f0 = 3 then { s with es := s.es.take (cutN s n) }
  else if n.f0 = 4 then behindN s n
  else s
def foldN (l : List S39) : NSt := l.foldl stepN nst0
def NSt.tup (s : NSt) : Int × Int × Int × Int × ByteArray × List S75 := (s.term, s.vote, s.base, s.bt, s.snap, s.es)
def okN (n : S39) : Bool := decide (0 ≤ n.f1) && decide (n.f1 < 18446744073709551616)
structure okS (s : NSt) : Prop where
  b0 : 0 ≤ s.base
  b1 : s.base ≤ 1099511627776
  l1 : s.es.length ≤ 1024
theorem okN_iff (n : S39) : okN n = true ↔ 0 ≤ n.f1 ∧ n.f1 < 18446744073709551616 := by
  unfold okN
  rw [Bool.and_eq_true, decide_eq_true_iff, decide_eq_true_iff]
theorem okS_step {s : NSt} {n : S39} (h : okS s) (hn : okN n = true) : okS (stepN s n) := by
  obtain ⟨h0, h1⟩ := (okN_iff n).1 hn
  obtain ⟨b0, b1, l1⟩ := h
  unfold stepN
  split
  · exact ⟨b0, b1, l1⟩
  split
  · split
    · rename_i h
      exact ⟨b0, b1, by rw [List.length_append, List.length_singleton]; have := h.2.1; omega⟩
    · exact ⟨b0, b1, l1⟩
  split
  · exact ⟨b0, b1, by rw [List.length_take]; omega⟩
  split
  · unfold behindN
    split
    · exact ⟨b0, b1, l1⟩
    · rename_i h
      refine ⟨by dsimp only; omega, by dsimp only; omega, ?_⟩
      dsimp only
      split
      · rw [List.length_drop]; omega
      · simp
  · exact ⟨b0, b1, l1⟩
theorem okS_foldl : ∀ (l : List S39) (s : NSt), okS s → l.all okN = true → okS (l.foldl stepN s)
  | [], s, h, _ => h
  | x :: r, s, h, ha => by
    rw [List.all_cons, Bool.and_eq_true] at ha
    exact okS_foldl r _ (okS_step h ha.1) ha.2
theorem okS_0 : okS nst0 := ⟨by decide, by decide, by decide⟩
end Go.Proofs.Ytfjhlcbpogihmaa.Pr
namespace Go.Proofs.Ytfjhlcbpogihmaa.Pr
open Go.RowKit Go.Proofs.YtfjhlcbpogihmaaW.PrintWords Go.Proofs.YtfjhlcbpogihmaaW.PrintLast Go.Proofs.YtfjhlcbpogihmaaW.PrintMore
open Go.Proofs.Ytfjhlcbpogihmaa.Hnd
attribute [local go_sem] setCell_drewN_ alloc_drewN_
set_option linter.unusedVariables false
set_option linter.unusedSimpArgs false
theorem nil_eq (A : Option Addr) (n c : Nat) (w : World) : (binOp .eql 26 (.slice A n c) (.slice none 0 0)).run Try.prog w = .ok (.bool A.isNone) w := by
  cases A <;> kernel_rfl
attribute [local go_sem high] nil_eq
def slices_Clone.f (l0 : List S75) : Option (List S75) := if l0.length < 5864062014805 then some l0 else none
set_option maxHeartbeats 1000000 in
set_option maxRecDepth 100000 in
theorem slices_Clone.calls (A0 : Option Addr) (c0 : Nat) (l0 : List S75) (r : List S75) (w : World) (hr0 : Kd.C k75 w A0 l0.length l0) (hc0 : l0.length ≤ c0) (h : slices_Clone.f l0 = some r) :
    Calls Try.prog 77 #[.slice A0 l0.length c0] w fun e w' => ∃ v0_ : Value, e = .returned (v0_) ∧ Kd.R k75 75 w' w.heap.size (fun _ => True) v0_ r ∧ Below w.heap.size w w' := by
  unfold slices_Clone.f at h
  by_cases hs : l0.length < 5864062014805
  rotate_left
  · rw [if_neg hs] at h; cases h
  rw [if_pos hs] at h
  obtain rfl := Option.some.inj h
  clear h
  have HS := Aside0.mk hs
  have HR := Aside0.mk hr0
  cases A0 with
  | none =>
    have h0 : l0 = [] := by
      by_cases hz : 0 < l0.length
      · obtain ⟨ad, ha, _⟩ := hr0.2.2 hz
        cases ha
      · exact List.eq_nil_of_length_eq_zero (by omega)
    subst h0
    clear hr0 hs
    go_enter Try.func77, Try.ntmps77
    go_wp2
    go_ret
    exact ⟨_, rfl, Kd.R_nil _ _ _ _ _, Below.refl _ _⟩
  | some ad =>
    clear hr0 hs
    go_enter Try.func77, Try.ntmps77
    go_wp2_with (first
      | ((with_reducible refine gate_dst (N := 5) rfl ?_); refine Kd.R_lit k75 (w0 := w) w.heap.size 75 ?hg (N := 5) ?hd (xs := ([] : List S75)) (inner := []) (ok := fun _ => True) (okp := fun _ => True) ?hr ?hp (fun _ hk => hk) trivial (Below.refl _ _) (Nat.le_refl _) (by simp) ?_; (case hd => rfl); (case hg => rfl); (case hr => first | (go_simp; done) | (go_simp; rfl)); (case hp => exact (Reps.none _ _)); intro v1 w1 ho hb hg_ hnew_; have HO := Aside0.mk ho; have HB := Aside0.mk hb; clear ho hb hg_ hnew_)
      | ((with_reducible refine gate_builtin (b := .append) (xs := #[.tmp 5, .tmp 6]) rfl ?_); (try (refine gate_guard (by rfl) ?_; dsimp only)); at_builtin; refine Kd.R_append_rows k75 (w0 := w) w.heap.size rfl (.tmp 5) (.tmp 6) 26 75 (.agg #[(.int .u64 0), (.string ⟨#[]⟩)]) 24 rfl Try.underlying26 info75 rfl (by decide) (by omega) _ ([] : List S75) l0 _ _ _ (fun _ => True) (fun _ => False) rfl rfl ?aO ?aR (fun _ _ h => h) (fun _ h => h.elim) (fun _ _ => trivial) ?aB ?aS ?aL ?_; (case aR => exact Kd.C_below HR.out HB.out); (case aB => exact HB.out); (case aO => exact HO.out); (case aS => exact HB.out.size); (case aL => have := HS.out; simp only [List.length_nil]; omega); intro v2 w2 ho hb hg hat; have HO2 := Aside0.mk ho; have HB2 := Aside0.mk hb; clear ho hb hg hat))
    go_ret
    exact ⟨_, rfl, HO2.out, HB2.out⟩
end Go.Proofs.Ytfjhlcbpogihmaa.Pr
namespace Go.Proofs.Ytfjhlcbpogihmaa.Pr
open Go.RowKit Go.Proofs.YtfjhlcbpogihmaaW.PrintWords Go.Proofs.YtfjhlcbpogihmaaW.PrintLast Go.Proofs.YtfjhlcbpogihmaaW.PrintMore
open Go.Proofs.Ytfjhlcbpogihmaa.Hnd
attribute [local go_sem] setCell_drewN_ alloc_drewN_
set_option linter.unusedVariables false
set_option linter.unusedSimpArgs false
theorem blk4 {w : World} {g : Nat} {t : TypeId} {a0 a1 a2 a3 : Value} (h : w.heap[g]? = some (.cells #[a0, a1, a2, a3] t (0, 0))) (b0 b1 b2 b3 : Value) :
    ((((w.setCell ⟨g, 0, none⟩ b0).setCell ⟨g, 1, none⟩ b1).setCell ⟨g, 2, none⟩ b2).setCell ⟨g, 3, none⟩ b3).heap[g]? = some (.cells #[b0, b1, b2, b3] t (0, 0)) := by
  have h0 := blk_put (cs' := #[b0, a1, a2, a3]) h 0 b0 rfl
  have h1 := blk_put (cs' := #[b0, b1, a2, a3]) h0 1 b1 rfl
  have h2 := blk_put (cs' := #[b0, b1, b2, a3]) h1 2 b2 rfl
  exact blk_put (cs' := #[b0, b1, b2, b3]) h2 3 b3 rfl
theorem below4 {w W : World} {g : Nat} (h : Below w.heap.size w W) (hg : w.heap.size ≤ g) (b0 b1 b2 b3 : Value) :
    Below w.heap.size w ((((W.setCell ⟨g, 0, none⟩ b0).setCell ⟨g, 1, none⟩ b1).setCell ⟨g, 2, none⟩ b2).setCell ⟨g, 3, none⟩ b3) := below_set (below_set (below_set (below_set h hg) hg) hg) hg
theorem r4 {w : World} {g base : Nat} {t : TypeId} {a0 a1 a2 a3 : Value} {ok : Nat → Prop} {v : Value} {xs : List S75} (hr : Kd.R k75 75 w base ok v xs) (h : w.heap[g]? = some (.cells #[a0, a1, a2, a3] t (0, 0))) (ht : ∀ q, q ∈ 75 :: k75.E → q ≠ t) (b0 b1 b2 b3 : Value) :
    Kd.R k75 75 ((((w.setCell ⟨g, 0, none⟩ b0).setCell ⟨g, 1, none⟩ b1).setCell ⟨g, 2, none⟩ b2).setCell ⟨g, 3, none⟩ b3) base ok v xs := by
  have h0 := blk_put (cs' := #[b0, a1, a2, a3]) h 0 b0 rfl
  have h1 := blk_put (cs' := #[b0, b1, a2, a3]) h0 1 b1 rfl
  have h2 := blk_put (cs' := #[b0, b1, b2, a3]) h1 2 b2 rfl
  exact Kd.R_set (Kd.R_set (Kd.R_set (Kd.R_set hr h ht 0 b0) h0 ht 1 b1) h1 ht 2 b2) h2 ht 3 b3
set_option maxHeartbeats 2000000 in
set_option maxRecDepth 100000 in
theorem note_behind.calls (s : NSt) (n : S39) (hs : okS s) (hn : okN n = true) (A : Option Addr) (c : Nat) (w : World) (hr : Kd.C k75 w A s.es.length s.es) (hc : s.es.length ≤ c) :
    Calls Try.prog 43 #[.agg #[.int .u64 s.base, .int .u64 s.bt, .string s.snap, .slice A s.es.length c], .agg #[.int .i64 n.f0, .int .u64 n.f1, .int .u64 n.f2, .int .u64 n.f3, .string n.f4]] w fun e w' =>
      ∃ v : Value, e = .returned (.agg #[.int .u64 (behindN s n).base, .int .u64 (behindN s n).bt, .string (behindN s n).snap, v]) ∧ Below w.heap.size w w' ∧ ((v = .slice A s.es.length c ∧ (behindN s n).es = s.es) ∨ Kd.R k75 75 w' w.heap.size (fun _ => True) v (behindN s n).es) := by
  obtain ⟨h0, h1⟩ := (okN_iff n).1 hn
  obtain ⟨b0, b1, l1⟩ := hs
  have HR := Aside0.mk hr
  have HC := Aside0.mk hc
  clear hn hr hc
  obtain ⟨term, vote, base, bt, snap, es⟩ := s
  obtain ⟨n0, n1, n2, n3, n4⟩ := n
  dsimp only at h0 h1 b0 b1 l1 HR HC ⊢
  by_cases hq : n1 ≤ base ∨ n1 > 1099511627776
  · have e1 : behindN ⟨term, vote, base, bt, snap, es⟩ ⟨n0, n1, n2, n3, n4⟩ = ⟨term, vote, base, bt, snap, es⟩ := if_pos hq
    rw [e1]
    by_cases hq1 : n1 ≤ base
    · have hb1 := decide_eq_true hq1
      clear hq hq1
      go_enter Try.func43, Try.ntmps43
      go_wp2_with fail
      refine bodyPost_ret (v := .agg #[.int .u64 base, .int .u64 bt, .string snap, .slice A es.length c]) (by simp [results, Try.results43, go_sem]) rfl ?_
      refine ⟨_, rfl, ?_, .inl ⟨rfl, trivial⟩⟩
      exact below_alloc (below_alloc (below_alloc (Below.refl _ _) _) _) _
    · have hb1 := decide_eq_false hq1
      have hb2 : decide (n1 > 1099511627776) = true := decide_eq_true (by omega)
      have hb3 : decide (1099511627776 < n1) = true := hb2
      clear hq hq1
      go_enter Try.func43, Try.ntmps43
      go_wp2_with fail
      refine bodyPost_ret (v := .agg #[.int .u64 base, .int .u64 bt, .string snap, .slice A es.length c]) (by simp [results, Try.results43, go_sem]) rfl ?_
      refine ⟨_, rfl, ?_, .inl ⟨rfl, trivial⟩⟩
      exact below_alloc (below_alloc (below_alloc (Below.refl _ _) _) _) _
  · have hq1 : ¬ n1 ≤ base := fun h => hq (.inl h)
    have hq2 : ¬ n1 > 1099511627776 := fun h => hq (.inr h)
    have e1 : behindN ⟨term, vote, base, bt, snap, es⟩ ⟨n0, n1, n2, n3, n4⟩ = ⟨term, vote, n1, n2, n4, if hasAt ⟨term, vote, base, bt, snap, es⟩ ⟨n0, n1, n2, n3, n4⟩ then es.drop (n1 - base).toNat else []⟩ := if_neg hq
    rw [e1]
    clear e1 hq
    have hb1 := decide_eq_false hq1
    have hb2 : decide (n1 > 1099511627776) = false := decide_eq_false hq2
    have hb3 : decide (1099511627776 < n1) = false := hb2
    obtain ⟨d, hd⟩ : ∃ d, n1 - base = d := ⟨_, rfl⟩
    have hw : IntKind.u64.wrap (n1 - base) = d := by rw [← hd]; simp [IntKind.wrap, IntKind.signed, IntKind.bits]; omega
    have hwl : IntKind.u64.wrap (es.length : Int) = (es.length : Int) := by simp [IntKind.wrap, IntKind.signed, IntKind.bits]; omega
    obtain ⟨x, hx⟩ : ∃ x, d - 1 = x := ⟨_, rfl⟩
    have hw1 : IntKind.u64.wrap (d - 1) = x := by rw [← hx]; simp [IntKind.wrap, IntKind.signed, IntKind.bits]; omega
    by_cases hk : d ≤ (es.length : Int)
    · have hkb := decide_eq_true hk
      obtain ⟨ad, rfl, q0, q1⟩ := at_T75 HR.out x (by omega) (by omega)
      have p2 := eq_true (show 0 ≤ x by omega)
      have p3 := eq_true (show x < (es.length : Int) by omega)
      have HD := Aside0.mk (show 1 ≤ d ∧ d ≤ (es.length : Int) from ⟨by omega, hk⟩)
      by_cases ht : (rd_T75 es x).f0 = n2
      · have e2 : (if hasAt ⟨term, vote, base, bt, snap, es⟩ ⟨n0, n1, n2, n3, n4⟩ then es.drop (n1 - base).toNat else []) = es.drop d.toNat := by
          rw [if_pos (show hasAt _ _ from ⟨by dsimp only; omega, by dsimp only; rw [hd, hx]; exact ht⟩), hd]
        rw [e2]
        have htb : ((rd_T75 es x).f0 == n2) = true := beq_iff_eq.mpr ht
        clear e2 hd hx hk hq1 hq2 ht
        go_enter Try.func43, Try.ntmps43
        go_wp2_with fail
        have k0 := blk_alloc (blk_alloc (blk_new w (.cells #[.int .u64 base, .int .u64 bt, .string snap, .slice (some ad) es.length c] 28)) (.cells #[.int .i64 n0, .int .u64 n1, .int .u64 n2, .int .u64 n3, .string n4] 39)) (.cells #[.int .u64 0, .int .u64 0, .string ⟨#[]⟩, .slice none 0 0] 28)
        have k1 := blk_alloc (blk_new (w.alloc (.cells #[.int .u64 base, .int .u64 bt, .string snap, .slice (some ad) es.length c] 28)) (.cells #[.int .i64 n0, .int .u64 n1, .int .u64 n2, .int .u64 n3, .string n4] 39)) (.cells #[.int .u64 0, .int .u64 0, .string ⟨#[]⟩, .slice none 0 0] 28)
        have k2 := blk_new ((w.alloc (.cells #[.int .u64 base, .int .u64 bt, .string snap, .slice (some ad) es.length c] 28)).alloc (.cells #[.int .i64 n0, .int .u64 n1, .int .u64 n2, .int .u64 n3, .string n4] 39)) (.cells #[.int .u64 0, .int .u64 0, .string ⟨#[]⟩, .slice none 0 0] 28)
        simp only [World.size_alloc] at k1 k2
        have HB := Aside0.mk (show Below w.heap.size w (((w.alloc (.cells #[.int .u64 base, .int .u64 bt, .string snap, .slice (some ad) es.length c] 28)).alloc (.cells #[.int .i64 n0, .int .u64 n1, .int .u64 n2, .int .u64 n3, .string n4] 39)).alloc (.cells #[.int .u64 0, .int .u64 0, .string ⟨#[]⟩, .slice none 0 0] 28)) from below_alloc (below_alloc (below_alloc (Below.refl _ _) _) _) _)
        generalize (((w.alloc (.cells #[.int .u64 base, .int .u64 bt, .string snap, .slice (some ad) es.length c] 28)).alloc (.cells #[.int .i64 n0, .int .u64 n1, .int .u64 n2, .int .u64 n3, .string n4] 39)).alloc (.cells #[.int .u64 0, .int .u64 0, .string ⟨#[]⟩, .slice none 0 0] 28)) = W0 at k0 k1 k2 HB ⊢
        have K0 := Aside0.mk k0
        have K1 := Aside0.mk k1
        have K2 := Aside0.mk k2
        have HR0 := Aside0.mk (Kd.C_below HR.out HB.out)
        have c3 := blk_cell k0 3
        have d1 := blk_cell k1 1
        have d2 := blk_cell k1 2
        have d4 := blk_cell k1 4
        replace q0 := (HB.out.cell (World.block_lt_of_cell? w _ q0)).trans q0
        replace q1 := (HB.out.cell (World.block_lt_of_cell? w _ q1)).trans q1
        clear k0 k1 k2
        go_quiet (fail)
        have k0 := blk_drewN K0.out nq
        have k1 := blk_drewN K1.out nq
        have k2 := blk_drewN K2.out nq
        have HB1 := Aside0.mk (pw_below_drewN HB.out nq)
        have HR1 := Aside0.mk (Kd.C_drewN HR0.out nq)
        generalize W0.drewN nq = W1 at k0 k1 k2 HB1 HR1 ⊢
        have c3 := blk_cell k0 3
        have d1 := blk_cell k1 1
        have d2 := blk_cell k1 2
        have d4 := blk_cell k1 4
        have f0 := blk_frozen k2 0
        have f1 := blk_frozen k2 1
        have f2 := blk_frozen k2 2
        have f3 := blk_frozen k2 3
        have z0 := blk_cell k2 0
        have z1 := blk_cell k2 1
        have z2 := blk_cell k2 2
        have z3 := blk_cell k2 3
        have zl := blk_lt k2
        have K1 := Aside0.mk k1
        have K2 := Aside0.mk k2
        clear k0 k1 k2 q0 q1 HB HR HR0
        have hsl := eq_true (show 0 ≤ d ∧ d ≤ (es.length : Int) from ⟨by have := HD.out; omega, HD.out.2⟩)
        have hdn : d.toNat ≤ es.length := by have := HD.out; omega
        have hC2 := Kd.C_drop (m := d.toNat) HR1.out hdn HC.out
        have hcall := slices_Clone.calls _ (c - d.toNat) (es.drop d.toNat) (es.drop d.toNat) W1 hC2 (by rw [List.length_drop]; have := HC.out; omega) (by unfold slices_Clone.f; rw [if_pos (by rw [List.length_drop]; omega)])
        rw [List.length_drop] at hcall
        by_cases hcd : c = d.toNat
        · rw [if_pos hcd, show c - d.toNat = 0 from by omega] at hcall
          have HCALL := Aside0.mk hcall
          have hcd2 := eq_true hcd
          clear hcall hC2 hdn
          go_wp2_with fail
          refine HCALL.out.mono ?_
          rintro e w2 ⟨v2, rfl, ho, hb⟩
          have k1 := blk_below K1.out hb
          have k2 := blk_below K2.out hb
          have HB2 := Aside0.mk (below_call HB1.out hb)
          have HO := Aside0.mk (Kd.R_lower ho HB1.out.size)
          have d1 := blk_cell k1 1
          have d2 := blk_cell k1 2
          have d4 := blk_cell k1 4
          have f0 := blk_frozen k2 0
          have f1 := blk_frozen k2 1
          have f2 := blk_frozen k2 2
          have f3 := blk_frozen k2 3
          have z0 := blk_cell k2 0
          have z1 := blk_cell k2 1
          have z2 := blk_cell k2 2
          have z3 := blk_cell k2 3
          have zl := blk_lt k2
          have K2 := Aside0.mk k2
          obtain ⟨A2, c2, e2⟩ := Kd.R_slice HO.out
          rw [List.length_drop] at e2
          subst e2
          clear k1 k2 ho hb
          go_wp2_with fail
          have bz := blk4 K2.out (.int .u64 n1) (.int .u64 n2) (.string n4) (.slice A2 (es.length - d.toNat) c2)
          have hBl := below4 (g := w.heap.size + 1 + 1) HB2.out (by omega) (.int .u64 n1) (.int .u64 n2) (.string n4) (.slice A2 (es.length - d.toNat) c2)
          have hO := r4 HO.out K2.out (by decide) (.int .u64 n1) (.int .u64 n2) (.string n4) (.slice A2 (es.length - d.toNat) c2)
          generalize ((((w2.setCell ⟨w.heap.size + 1 + 1, 0, none⟩ (.int .u64 n1)).setCell ⟨w.heap.size + 1 + 1, 1, none⟩ (.int .u64 n2)).setCell ⟨w.heap.size + 1 + 1, 2, none⟩ (.string n4)).setCell ⟨w.heap.size + 1 + 1, 3, none⟩ (.slice A2 (es.length - d.toNat) c2)) = W4 at bz hBl hO ⊢
          have y0 := blk_cell bz 0
          have y1 := blk_cell bz 1
          have y2 := blk_cell bz 2
          have y3 := blk_cell bz 3
          refine bodyPost_ret (v := .agg #[.int .u64 n1, .int .u64 n2, .string n4, .slice A2 (es.length - d.toNat) c2]) (by simp [results, Try.results43, go_sem, y0, y1, y2, y3]) rfl ?_
          exact ⟨_, rfl, hBl, .inr hO⟩
        · rw [if_neg hcd] at hcall
          have HCALL := Aside0.mk hcall
          have hcd2 := eq_false hcd
          clear hcall hC2 hdn
          go_wp2_with fail
          refine HCALL.out.mono ?_
          rintro e w2 ⟨v2, rfl, ho, hb⟩
          have k1 := blk_below K1.out hb
          have k2 := blk_below K2.out hb
          have HB2 := Aside0.mk (below_call HB1.out hb)
          have HO := Aside0.mk (Kd.R_lower ho HB1.out.size)
          have d1 := blk_cell k1 1
          have d2 := blk_cell k1 2
          have d4 := blk_cell k1 4
          have f0 := blk_frozen k2 0
          have f1 := blk_frozen k2 1
          have f2 := blk_frozen k2 2
          have f3 := blk_frozen k2 3
          have z0 := blk_cell k2 0
          have z1 := blk_cell k2 1
          have z2 := blk_cell k2 2
          have z3 := blk_cell k2 3
          have zl := blk_lt k2
          have K2 := Aside0.mk k2
          obtain ⟨A2, c2, e2⟩ := Kd.R_slice HO.out
          rw [List.length_drop] at e2
          subst e2
          clear k1 k2 ho hb
          go_wp2_with fail
          have bz := blk4 K2.out (.int .u64 n1) (.int .u64 n2) (.string n4) (.slice A2 (es.length - d.toNat) c2)
          have hBl := below4 (g := w.heap.size + 1 + 1) HB2.out (by omega) (.int .u64 n1) (.int .u64 n2) (.string n4) (.slice A2 (es.length - d.toNat) c2)
          have hO := r4 HO.out K2.out (by decide) (.int .u64 n1) (.int .u64 n2) (.string n4) (.slice A2 (es.length - d.toNat) c2)
          generalize ((((w2.setCell ⟨w.heap.size + 1 + 1, 0, none⟩ (.int .u64 n1)).setCell ⟨w.heap.size + 1 + 1, 1, none⟩ (.int .u64 n2)).setCell ⟨w.heap.size + 1 + 1, 2, none⟩ (.string n4)).setCell ⟨w.heap.size + 1 + 1, 3, none⟩ (.slice A2 (es.length - d.toNat) c2)) = W4 at bz hBl hO ⊢
          have y0 := blk_cell bz 0
          have y1 := blk_cell bz 1
          have y2 := blk_cell bz 2
          have y3 := blk_cell bz 3
          refine bodyPost_ret (v := .agg #[.int .u64 n1, .int .u64 n2, .string n4, .slice A2 (es.length - d.toNat) c2]) (by simp [results, Try.results43, go_sem, y0, y1, y2, y3]) rfl ?_
          exact ⟨_, rfl, hBl, .inr hO⟩
      · have e2 : (if hasAt ⟨term, vote, base, bt, snap, es⟩ ⟨n0, n1, n2, n3, n4⟩ then es.drop (n1 - base).toNat else []) = [] := by
          rw [if_neg (fun h : hasAt _ _ => ht (by have := h.2; dsimp only at this; rw [hd, hx] at this; exact this))]
        rw [e2]
        have htb : ((rd_T75 es x).f0 == n2) = false := beq_eq_false_iff_ne.mpr ht
        clear e2 hd hx hk hq1 hq2 ht
        go_enter Try.func43, Try.ntmps43
        go_wp2_with fail
        have k0 := blk_alloc (blk_alloc (blk_new w (.cells #[.int .u64 base, .int .u64 bt, .string snap, .slice (some ad) es.length c] 28)) (.cells #[.int .i64 n0, .int .u64 n1, .int .u64 n2, .int .u64 n3, .string n4] 39)) (.cells #[.int .u64 0, .int .u64 0, .string ⟨#[]⟩, .slice none 0 0] 28)
        have k1 := blk_alloc (blk_new (w.alloc (.cells #[.int .u64 base, .int .u64 bt, .string snap, .slice (some ad) es.length c] 28)) (.cells #[.int .i64 n0, .int .u64 n1, .int .u64 n2, .int .u64 n3, .string n4] 39)) (.cells #[.int .u64 0, .int .u64 0, .string ⟨#[]⟩, .slice none 0 0] 28)
        have k2 := blk_new ((w.alloc (.cells #[.int .u64 base, .int .u64 bt, .string snap, .slice (some ad) es.length c] 28)).alloc (.cells #[.int .i64 n0, .int .u64 n1, .int .u64 n2, .int .u64 n3, .string n4] 39)) (.cells #[.int .u64 0, .int .u64 0, .string ⟨#[]⟩, .slice none 0 0] 28)
        simp only [World.size_alloc] at k1 k2
        have HB := Aside0.mk (show Below w.heap.size w (((w.alloc (.cells #[.int .u64 base, .int .u64 bt, .string snap, .slice (some ad) es.length c] 28)).alloc (.cells #[.int .i64 n0, .int .u64 n1, .int .u64 n2, .int .u64 n3, .string n4] 39)).alloc (.cells #[.int .u64 0, .int .u64 0, .string ⟨#[]⟩, .slice none 0 0] 28)) from below_alloc (below_alloc (below_alloc (Below.refl _ _) _) _) _)
        generalize (((w.alloc (.cells #[.int .u64 base, .int .u64 bt, .string snap, .slice (some ad) es.length c] 28)).alloc (.cells #[.int .i64 n0, .int .u64 n1, .int .u64 n2, .int .u64 n3, .string n4] 39)).alloc (.cells #[.int .u64 0, .int .u64 0, .string ⟨#[]⟩, .slice none 0 0] 28)) = W0 at k0 k1 k2 HB ⊢
        have K0 := Aside0.mk k0
        have K1 := Aside0.mk k1
        have K2 := Aside0.mk k2
        have HR0 := Aside0.mk (Kd.C_below HR.out HB.out)
        have c3 := blk_cell k0 3
        have d1 := blk_cell k1 1
        have d2 := blk_cell k1 2
        have d4 := blk_cell k1 4
        replace q0 := (HB.out.cell (World.block_lt_of_cell? w _ q0)).trans q0
        replace q1 := (HB.out.cell (World.block_lt_of_cell? w _ q1)).trans q1
        clear k0 k1 k2
        go_quiet (fail)
        have k0 := blk_drewN K0.out nq
        have k1 := blk_drewN K1.out nq
        have k2 := blk_drewN K2.out nq
        have HB1 := Aside0.mk (pw_below_drewN HB.out nq)
        have HR1 := Aside0.mk (Kd.C_drewN HR0.out nq)
        generalize W0.drewN nq = W1 at k0 k1 k2 HB1 HR1 ⊢
        have c3 := blk_cell k0 3
        have d1 := blk_cell k1 1
        have d2 := blk_cell k1 2
        have d4 := blk_cell k1 4
        have f0 := blk_frozen k2 0
        have f1 := blk_frozen k2 1
        have f2 := blk_frozen k2 2
        have f3 := blk_frozen k2 3
        have z0 := blk_cell k2 0
        have z1 := blk_cell k2 1
        have z2 := blk_cell k2 2
        have z3 := blk_cell k2 3
        have zl := blk_lt k2
        have K1 := Aside0.mk k1
        have K2 := Aside0.mk k2
        clear k0 k1 k2 q0 q1 HB HR HR0
        go_wp2_with fail
        have bz := blk4 K2.out (.int .u64 n1) (.int .u64 n2) (.string n4) (.slice none 0 0)
        have hBl := below4 (g := w.heap.size + 1 + 1) HB1.out (by omega) (.int .u64 n1) (.int .u64 n2) (.string n4) (.slice none 0 0)
        generalize ((((W1.setCell ⟨w.heap.size + 1 + 1, 0, none⟩ (.int .u64 n1)).setCell ⟨w.heap.size + 1 + 1, 1, none⟩ (.int .u64 n2)).setCell ⟨w.heap.size + 1 + 1, 2, none⟩ (.string n4)).setCell ⟨w.heap.size + 1 + 1, 3, none⟩ (.slice none 0 0)) = W4 at bz hBl ⊢
        have y0 := blk_cell bz 0
        have y1 := blk_cell bz 1
        have y2 := blk_cell bz 2
        have y3 := blk_cell bz 3
        refine bodyPost_ret (v := .agg #[.int .u64 n1, .int .u64 n2, .string n4, .slice none 0 0]) (by simp [results, Try.results43, go_sem, y0, y1, y2, y3]) rfl ?_
        exact ⟨_, rfl, hBl, .inr (Kd.R_nil _ _ _ _ _)⟩
    · have hkb := decide_eq_false hk
      have e2 : (if hasAt ⟨term, vote, base, bt, snap, es⟩ ⟨n0, n1, n2, n3, n4⟩ then es.drop (n1 - base).toNat else []) = [] := by
        rw [if_neg (fun h : hasAt _ _ => hk (by have := h.1; dsimp only at this; omega))]
      rw [e2]
      clear e2 hd hx hk hq1 hq2
      go_enter Try.func43, Try.ntmps43
      go_wp2_with fail
      repeat (go_quiet (fail); try go_wp2_with fail)
      refine bodyPost_ret (v := .agg #[.int .u64 n1, .int .u64 n2, .string n4, .slice none 0 0]) (by simp [results, Try.results43, go_sem]) rfl ?_
      exact ⟨_, rfl, pw_below_drewN (below_alloc (below_alloc (below_alloc (Below.refl _ _) _) _) _) _, .inr (Kd.R_nil _ _ _ _ _)⟩
end Go.Proofs.Ytfjhlcbpogihmaa.Pr
namespace Go.Proofs.Ytfjhlcbpogihmaa.Pr
open Go.RowKit Go.Proofs.YtfjhlcbpogihmaaW.PrintWords Go.Proofs.YtfjhlcbpogihmaaW.PrintLast Go.Proofs.YtfjhlcbpogihmaaW.PrintMore
attribute [local go_sem] max2_int min2_int max_two min_two max_three min_three max_four min_four   -- for this text's walks alone
set_option linter.unusedVariables false
set_option linter.unusedSimpArgs false

/-! ### note_last: function 42 -/
def note_last.f (a0_0 : Int) (a0_1 : Int) (a0_2 : ByteArray) (l0_3 : List (S75)) : Option (Int) := some (IntKind.u64.wrap (a0_0 + (IntKind.u64.wrap ((l0_3.length : Int)))))
set_option maxHeartbeats 8000000 in
set_option maxRecDepth 100000 in
theorem note_last.calls (a0_0 : Int) (a0_1 : Int) (a0_2 : ByteArray) (A0_3 : Option Addr) (c0_3 : Nat) (l0_3 : List (S75)) (r : Int) (w : World) (hr0_3 : Kd.C k75 w A0_3 l0_3.length l0_3) (hc0_3 : l0_3.length ≤ c0_3) (h : note_last.f a0_0 a0_1 a0_2 l0_3 = some r) :
    Calls Try.prog 42 #[.agg #[.int .u64 a0_0, .int .u64 a0_1, .string a0_2, .slice A0_3 l0_3.length c0_3]] w fun e w' => e = .returned (.int .u64 r) ∧ Below w.heap.size w w' := by
  have hu28 := Try.underlying28
  have HR0_3 := Aside0.mk hr0_3
  have HC0_3 := Aside0.mk hc0_3
  clear hr0_3 hc0_3
  have HB := Aside0.mk (Below.refl w.heap.size w)
  have H : (some (IntKind.u64.wrap (a0_0 + (IntKind.u64.wrap ((l0_3.length : Int)))))) = some r := h
  clear h
  obtain rfl := Option.some.inj H
  go_enter Try.func42, Try.ntmps42
  go_wp2_with (first | ((with_reducible refine gate_dst (N := 1) rfl ?_); refine box_event ?hg (N := 1) ?hd (cs := #[.int .u64 a0_0, .int .u64 a0_1, .string a0_2, .slice A0_3 l0_3.length c0_3]) (t := 28) ?hr ?_; (case hd => rfl); (case hg => rfl); (case hr => first | (go_simp; done) | (go_simp; rfl)); intro gb101 hg w2 hbox hb; have n0_ := Aside0.mk (below_step (by repeat (first | (with_reducible first | exact HB.out | apply below_alloc | apply pw_below_drewN | apply below_drew1) | exact HB.out | exact Below.refl _ _)) hb); have n1_ := Aside0.mk (hbox); have n2_ := Aside0.mk ((by rw [hg]; exact (below_size (by repeat (first | (with_reducible first | exact HB.out | apply below_alloc | apply pw_below_drewN | apply below_drew1) | exact HB.out))) : w.heap.size ≤ gb101)); have n3_ := Aside0.mk ((by rw [hg]; exact (below_size (by repeat (first | (with_reducible first | exact HB.out | apply below_alloc | apply pw_below_drewN | apply below_drew1) | exact HB.out))) : w.heap.size ≤ gb101)); clear HB; have HB := n0_; have BK101 := n1_; have GW101 := n2_; have GE101 := n3_; clear n0_ n1_ n2_ n3_; clear hb hbox hg; have hcz3_0 : w2.cell? ⟨gb101, 0, none⟩ = some (.int .u64 a0_0) := (blk_cell BK101.out 0).trans rfl; have hcz3_1 : w2.cell? ⟨gb101, 1, none⟩ = some (.int .u64 a0_1) := (blk_cell BK101.out 1).trans rfl; have hcz3_2 : w2.cell? ⟨gb101, 2, none⟩ = some (.string a0_2) := (blk_cell BK101.out 2).trans rfl; have hcz3_3 : w2.cell? ⟨gb101, 3, none⟩ = some (.slice A0_3 l0_3.length c0_3) := (blk_cell BK101.out 3).trans rfl; have hfz3_0 := blk_frozen BK101.out 0; have hfz3_1 := blk_frozen BK101.out 1; have hfz3_2 := blk_frozen BK101.out 2; have hfz3_3 := blk_frozen BK101.out 3))
  go_ret
  exact ⟨by first | rfl | (simp [errW_none, errW_some] <;> rfl) | (simp [*, errW_none, errW_some] <;> rfl), by repeat (first | (with_reducible first | exact HB.out | apply below_alloc | apply pw_below_drewN | apply below_drew1 | refine below_set ?_ GE101.out) | exact HB.out)⟩

end Go.Proofs.Ytfjhlcbpogihmaa.Pr
namespace Go.Proofs.Ytfjhlcbpogihmaa.Pr
open Go.RowKit Go.Proofs.YtfjhlcbpogihmaaW.PrintWords Go.Proofs.YtfjhlcbpogihmaaW.PrintLast Go.Proofs.YtfjhlcbpogihmaaW.PrintMore
attribute [local go_sem] max2_int min2_int max_two min_two max_three min_three max_four min_four   -- for this text's walks alone
set_option linter.unusedVariables false
set_option linter.unusedSimpArgs false

theorem eqA39 (d : Nat) (w : World) (x0 y0 : Int) (x1 y1 : Int) (x2 y2 : Int) (x3 y3 : Int) (x4 y4 : ByteArray) :
    (Op.equalIn (d + 2) 39 (.agg #[.int .i64 x0, .int .u64 x1, .int .u64 x2, .int .u64 x3, .string x4]) (.agg #[.int .i64 y0, .int .u64 y1, .int .u64 y2, .int .u64 y3, .string y4])).run Try.prog w = .ok (x0 == y0 && (x1 == y1 && (x2 == y2 && (x3 == y3 && (x4.toList == y4.toList))))) w := by
  refine eqA_of Try.underlying39 (by kernel_rfl) ?_
  refine eqf_cons (by rfl) (by go_simp; rfl) (by go_simp; rfl) (by go_simp) ?_
  refine eqf_cons (by rfl) (by go_simp; rfl) (by go_simp; rfl) (by go_simp) ?_
  refine eqf_cons (by rfl) (by go_simp; rfl) (by go_simp; rfl) (by go_simp) ?_
  refine eqf_cons (by rfl) (by go_simp; rfl) (by go_simp; rfl) (by go_simp) ?_
  exact eqf_last (by rfl) (by go_simp; rfl) (by go_simp; rfl) (by go_simp)
end Go.Proofs.Ytfjhlcbpogihmaa.Pr
namespace Go.Proofs.Ytfjhlcbpogihmaa.Pr
open Go.RowKit Go.Proofs.YtfjhlcbpogihmaaW.PrintWords Go.Proofs.YtfjhlcbpogihmaaW.PrintLast Go.Proofs.YtfjhlcbpogihmaaW.PrintMore
open Go.Proofs.Ytfjhlcbpogihmaa.Hnd
attribute [local go_sem] setCell_drewN_ alloc_drewN_ max2_int min2_int max_two min_two max_three min_three max_four min_four
attribute [local go_sem high] eqA39
set_option linter.unusedVariables false
set_option linter.unusedSimpArgs false
/-- Three numbers and a text within their bounds? -/
def nmIn (i t v : Int) (d : ByteArray) : Prop := i ≤ 4611686018427387903 ∧ t ≤ 4611686018427387903 ∧ v ≤ 4611686018427387903 ∧ (d.size : Int) ≤ 4096
instance (i t v : Int) (d : ByteArray) : Decidable (nmIn i t v d) := by unfold nmIn; infer_instance
def nmP1 (i t v : Int) (d : ByteArray) : Prop := 0 = i ∧ d.toList = []
def nmP2 (i t v : Int) (d : ByteArray) : Prop := 0 = v
def nmP3 (i t v : Int) (d : ByteArray) : Prop := 0 = t ∧ 0 = v ∧ d.toList = []
instance (i t v : Int) (d : ByteArray) : Decidable (nmP1 i t v d) := by unfold nmP1; infer_instance
instance (i t v : Int) (d : ByteArray) : Decidable (nmP2 i t v d) := by unfold nmP2; infer_instance
instance (i t v : Int) (d : ByteArray) : Decidable (nmP3 i t v d) := by unfold nmP3; infer_instance
def nm1 (i t v : Int) (d : ByteArray) : Bool := decide (nmP1 i t v d ∧ nmIn i t v d)
def nm2 (i t v : Int) (d : ByteArray) : Bool := decide (nmP2 i t v d ∧ nmIn i t v d)
def nm3 (i t v : Int) (d : ByteArray) : Bool := decide (nmP3 i t v d ∧ nmIn i t v d)
theorem nm_at {P : Prop} [Decidable P] {i t v : Int} {d : ByteArray} (hp : P) (h1 : i ≤ 4611686018427387903) (h2 : t ≤ 4611686018427387903) (h3 : v ≤ 4611686018427387903) : decide ((d.size : Int) ≤ 4096) = decide (P ∧ nmIn i t v d) :=
  decide_eq_decide.2 ⟨fun h => ⟨hp, h1, h2, h3, h⟩, fun h => h.2.2.2.2⟩
set_option maxHeartbeats 2000000 in
set_option maxRecDepth 100000 in
theorem nm_1 (i t v : Int) (d : ByteArray) (w : World) :
    Calls Try.prog 45 #[.agg #[.int .i64 1, .int .u64 i, .int .u64 t, .int .u64 v, .string d]] w fun e w' => e = .returned (.bool (nm1 i t v d)) ∧ Below w.heap.size w w' := by
  have hu39 := Try.underlying39
  go_enter Try.func45, Try.ntmps45
  go_wp2_with fail
  all_goals go_ret
  all_goals refine ⟨?_, below_alloc (below_alloc (Below.refl _ _) _) _⟩
  all_goals refine congrArg (fun b => Ending.returned (Value.bool b)) (?_ : (_ : Bool) = _)
  all_goals first
    | exact nm_at (by unfold nmP1; first | assumption | omega | simp_all) (by omega) (by omega) (by omega)
    | exact (decide_eq_false (fun hh => by unfold nmP1 nmIn at hh; first | omega | (simp_all; done) | (obtain ⟨⟨hA, hB, hC⟩, hD⟩ := hh; first | omega | (rename_i hX; exact hX hA hB hC) | (rename_i hX; exact hX hC) | (rename_i hX; exact hX ⟨hA, hB, hC⟩)))).symm
set_option maxHeartbeats 2000000 in
set_option maxRecDepth 100000 in
theorem nm_2 (i t v : Int) (d : ByteArray) (w : World) :
    Calls Try.prog 45 #[.agg #[.int .i64 2, .int .u64 i, .int .u64 t, .int .u64 v, .string d]] w fun e w' => e = .returned (.bool (nm2 i t v d)) ∧ Below w.heap.size w w' := by
  have hu39 := Try.underlying39
  go_enter Try.func45, Try.ntmps45
  go_wp2_with fail
  all_goals go_ret
  all_goals refine ⟨?_, below_alloc (below_alloc (Below.refl _ _) _) _⟩
  all_goals refine congrArg (fun b => Ending.returned (Value.bool b)) (?_ : (_ : Bool) = _)
  all_goals first
    | exact nm_at (by unfold nmP2; first | assumption | omega | simp_all) (by omega) (by omega) (by omega)
    | exact (decide_eq_false (fun hh => by unfold nmP2 nmIn at hh; first | omega | (simp_all; done) | (obtain ⟨⟨hA, hB, hC⟩, hD⟩ := hh; first | omega | (rename_i hX; exact hX hA hB hC) | (rename_i hX; exact hX hC) | (rename_i hX; exact hX ⟨hA, hB, hC⟩)))).symm
set_option maxHeartbeats 2000000 in
set_option maxRecDepth 100000 in
theorem nm_3 (i t v : Int) (d : ByteArray) (w : World) :
    Calls Try.prog 45 #[.agg #[.int .i64 3, .int .u64 i, .int .u64 t, .int .u64 v, .string d]] w fun e w' => e = .returned (.bool (nm3 i t v d)) ∧ Below w.heap.size w w' := by
  have hu39 := Try.underlying39
  go_enter Try.func45, Try.ntmps45
  go_wp2_with fail
  all_goals go_ret
  all_goals refine ⟨?_, below_alloc (below_alloc (Below.refl _ _) _) _⟩
  all_goals refine congrArg (fun b => Ending.returned (Value.bool b)) (?_ : (_ : Bool) = _)
  all_goals first
    | exact nm_at (by unfold nmP3; first | assumption | omega | simp_all) (by omega) (by omega) (by omega)
    | exact (decide_eq_false (fun hh => by unfold nmP3 nmIn at hh; first | omega | (simp_all; done) | (obtain ⟨⟨hA, hB, hC⟩, hD⟩ := hh; first | omega | (rename_i hX; exact hX hA hB hC) | (rename_i hX; exact hX hC) | (rename_i hX; exact hX ⟨hA, hB, hC⟩)))).symm
set_option maxHeartbeats 2000000 in
set_option maxRecDepth 100000 in
theorem nm_4 (i t v : Int) (d : ByteArray) (w : World) :
    Calls Try.prog 45 #[.agg #[.int .i64 4, .int .u64 i, .int .u64 t, .int .u64 v, .string d]] w fun e w' => e = .returned (.bool (nm2 i t v d)) ∧ Below w.heap.size w w' := by
  have hu39 := Try.underlying39
  go_enter Try.func45, Try.ntmps45
  go_wp2_with fail
  all_goals go_ret
  all_goals refine ⟨?_, below_alloc (below_alloc (Below.refl _ _) _) _⟩
  all_goals refine congrArg (fun b => Ending.returned (Value.bool b)) (?_ : (_ : Bool) = _)
  all_goals first
    | exact nm_at (by unfold nmP2; first | assumption | omega | simp_all) (by omega) (by omega) (by omega)
    | exact (decide_eq_false (fun hh => by unfold nmP2 nmIn at hh; first | omega | (simp_all; done) | (obtain ⟨⟨hA, hB, hC⟩, hD⟩ := hh; first | omega | (rename_i hX; exact hX hA hB hC) | (rename_i hX; exact hX hC) | (rename_i hX; exact hX ⟨hA, hB, hC⟩)))).symm
set_option maxHeartbeats 2000000 in
set_option maxRecDepth 100000 in
theorem nm_0 (kd : Int) (h1 : (kd == 1) = false) (h2 : (kd == 2) = false) (h3 : (kd == 3) = false) (h4 : (kd == 4) = false) (i t v : Int) (d : ByteArray) (w : World) :
    Calls Try.prog 45 #[.agg #[.int .i64 kd, .int .u64 i, .int .u64 t, .int .u64 v, .string d]] w fun e w' => e = .returned (.bool false) ∧ Below w.heap.size w w' := by
  have hu39 := Try.underlying39
  go_enter Try.func45, Try.ntmps45
  go_wp2_with fail
  all_goals go_ret
  all_goals exact ⟨rfl, below_alloc (below_alloc (Below.refl _ _) _) _⟩
/-- May a note be? -/
def nmayB (kd i t v : Int) (d : ByteArray) : Bool := if kd = 1 then nm1 i t v d else if kd = 2 then nm2 i t v d else if kd = 3 then nm3 i t v d else if kd = 4 then nm2 i t v d else false
def note_may.f (k : Nat) (a0_0 : Int) (a0_1 : Int) (a0_2 : Int) (a0_3 : Int) (a0_4 : ByteArray) : Option Bool := some (nmayB a0_0 a0_1 a0_2 a0_3 a0_4)
theorem note_may.mono : ∀ a0 a1 a2 a3 a4 k, LeO (note_may.f k a0 a1 a2 a3 a4) (note_may.f (k + 1) a0 a1 a2 a3 a4) := fun _ _ _ _ _ _ => LeO.refl _
theorem note_may.calls (k : Nat) (a0_0 : Int) (a0_1 : Int) (a0_2 : Int) (a0_3 : Int) (a0_4 : ByteArray) (r : Bool) (w : World) (h : note_may.f k a0_0 a0_1 a0_2 a0_3 a0_4 = some r) :
    Calls Try.prog 45 #[.agg #[.int .i64 a0_0, .int .u64 a0_1, .int .u64 a0_2, .int .u64 a0_3, .string a0_4]] w fun e w' => e = .returned (.bool r) ∧ Below w.heap.size w w' := by
  obtain rfl := Option.some.inj h
  unfold nmayB
  by_cases h1 : a0_0 = 1
  · subst h1; exact nm_1 a0_1 a0_2 a0_3 a0_4 w
  rw [if_neg h1]
  by_cases h2 : a0_0 = 2
  · subst h2; exact nm_2 a0_1 a0_2 a0_3 a0_4 w
  rw [if_neg h2]
  by_cases h3 : a0_0 = 3
  · subst h3; exact nm_3 a0_1 a0_2 a0_3 a0_4 w
  rw [if_neg h3]
  by_cases h4 : a0_0 = 4
  · subst h4; exact nm_4 a0_1 a0_2 a0_3 a0_4 w
  rw [if_neg h4]
  exact nm_0 a0_0 (beq_eq_false_iff_ne.2 h1) (beq_eq_false_iff_ne.2 h2) (beq_eq_false_iff_ne.2 h3) (beq_eq_false_iff_ne.2 h4) a0_1 a0_2 a0_3 a0_4 w
end Go.Proofs.Ytfjhlcbpogihmaa.Pr
namespace Go.Proofs.Ytfjhlcbpogihmaa.Pr
open Go.RowKit Go.Proofs.YtfjhlcbpogihmaaW.PrintWords Go.Proofs.YtfjhlcbpogihmaaW.PrintLast Go.Proofs.YtfjhlcbpogihmaaW.PrintMore
set_option linter.unusedVariables false
set_option linter.unusedSimpArgs false
/-- How many bits. -/
def bl (n : Nat) : Nat := if n = 0 then 0 else Nat.log2 n + 1
theorem bl_lt {n k : Nat} : bl n ≤ k ↔ n < 2 ^ k := by
  unfold bl
  by_cases h : n = 0
  · subst h; simp; exact Nat.pow_pos (by omega)
  · rw [if_neg h, ← Nat.log2_lt h]; omega
theorem bl_unique {n m : Nat} (h : ∀ k, n < 2 ^ k ↔ m ≤ k) : bl n = m := Nat.le_antisymm (bl_lt.2 ((h m).2 (Nat.le_refl _))) ((h (bl n)).1 (bl_lt.1 (Nat.le_refl _)))
theorem bl_div {n j : Nat} (hj : 2 ^ j ≤ n) : bl n = j + bl (n / 2 ^ j) := by
  refine bl_unique fun k => ?_
  by_cases hk : j ≤ k
  · rw [show j + bl (n / 2 ^ j) ≤ k ↔ bl (n / 2 ^ j) ≤ k - j from by omega, bl_lt, Nat.div_lt_iff_lt_mul (Nat.pow_pos (by omega)), ← Nat.pow_add, Nat.sub_add_cancel hk]
  · have := Nat.pow_le_pow_right (show 2 > 0 by omega) (show k ≤ j by omega)
    exact ⟨fun h => by omega, fun h => by omega⟩
set_option maxRecDepth 100000 in
theorem tab_bl : ∀ i : Fin 256, (((⟨#[0, 1, 2, 2, 3, 3, 3, 3, 4, 4, 4, 4, 4, 4, 4, 4, 5, 5, 5, 5, 5, 5, 5, 5, 5, 5, 5, 5, 5, 5, 5, 5, 6, 6, 6, 6, 6, 6, 6, 6, 6, 6, 6, 6, 6, 6, 6, 6, 6, 6, 6, 6, 6, 6, 6, 6, 6, 6, 6, 6, 6, 6, 6, 6, 7, 7, 7, 7, 7, 7, 7, 7, 7, 7, 7, 7, 7, 7, 7, 7, 7, 7, 7, 7, 7, 7, 7, 7, 7, 7, 7, 7, 7, 7, 7, 7, 7, 7, 7, 7, 7, 7, 7, 7, 7, 7, 7, 7, 7, 7, 7, 7, 7, 7, 7, 7, 7, 7, 7, 7, 7, 7, 7, 7, 7, 7, 7, 7, 8, 8, 8, 8, 8, 8, 8, 8, 8, 8, 8, 8, 8, 8, 8, 8, 8, 8, 8, 8, 8, 8, 8, 8, 8, 8, 8, 8, 8, 8, 8, 8, 8, 8, 8, 8, 8, 8, 8, 8, 8, 8, 8, 8, 8, 8, 8, 8, 8, 8, 8, 8, 8, 8, 8, 8, 8, 8, 8, 8, 8, 8, 8, 8, 8, 8, 8, 8, 8, 8, 8, 8, 8, 8, 8, 8, 8, 8, 8, 8, 8, 8, 8, 8, 8, 8, 8, 8, 8, 8, 8, 8, 8, 8, 8, 8, 8, 8, 8, 8, 8, 8, 8, 8, 8, 8, 8, 8, 8, 8, 8, 8, 8, 8, 8, 8, 8, 8, 8, 8, 8, 8, 8, 8, 8, 8, 8, 8]⟩ : ByteArray)[i.val]'(by have := i.isLt; show i.val < 256; exact this)).toNat) = bl i.val := by decide +kernel
theorem tab_bl' (v : Int) (h0 : 0 ≤ v) (h1 : v < 256) (h : v.toNat < ((⟨#[0, 1, 2, 2, 3, 3, 3, 3, 4, 4, 4, 4, 4, 4, 4, 4, 5, 5, 5, 5, 5, 5, 5, 5, 5, 5, 5, 5, 5, 5, 5, 5, 6, 6, 6, 6, 6, 6, 6, 6, 6, 6, 6, 6, 6, 6, 6, 6, 6, 6, 6, 6, 6, 6, 6, 6, 6, 6, 6, 6, 6, 6, 6, 6, 7, 7, 7, 7, 7, 7, 7, 7, 7, 7, 7, 7, 7, 7, 7, 7, 7, 7, 7, 7, 7, 7, 7, 7, 7, 7, 7, 7, 7, 7, 7, 7, 7, 7, 7, 7, 7, 7, 7, 7, 7, 7, 7, 7, 7, 7, 7, 7, 7, 7, 7, 7, 7, 7, 7, 7, 7, 7, 7, 7, 7, 7, 7, 7, 8, 8, 8, 8, 8, 8, 8, 8, 8, 8, 8, 8, 8, 8, 8, 8, 8, 8, 8, 8, 8, 8, 8, 8, 8, 8, 8, 8, 8, 8, 8, 8, 8, 8, 8, 8, 8, 8, 8, 8, 8, 8, 8, 8, 8, 8, 8, 8, 8, 8, 8, 8, 8, 8, 8, 8, 8, 8, 8, 8, 8, 8, 8, 8, 8, 8, 8, 8, 8, 8, 8, 8, 8, 8, 8, 8, 8, 8, 8, 8, 8, 8, 8, 8, 8, 8, 8, 8, 8, 8, 8, 8, 8, 8, 8, 8, 8, 8, 8, 8, 8, 8, 8, 8, 8, 8, 8, 8, 8, 8, 8, 8, 8, 8, 8, 8, 8, 8, 8, 8, 8, 8, 8, 8, 8, 8, 8, 8]⟩ : ByteArray)).size) : (((⟨#[0, 1, 2, 2, 3, 3, 3, 3, 4, 4, 4, 4, 4, 4, 4, 4, 5, 5, 5, 5, 5, 5, 5, 5, 5, 5, 5, 5, 5, 5, 5, 5, 6, 6, 6, 6, 6, 6, 6, 6, 6, 6, 6, 6, 6, 6, 6, 6, 6, 6, 6, 6, 6, 6, 6, 6, 6, 6, 6, 6, 6, 6, 6, 6, 7, 7, 7, 7, 7, 7, 7, 7, 7, 7, 7, 7, 7, 7, 7, 7, 7, 7, 7, 7, 7, 7, 7, 7, 7, 7, 7, 7, 7, 7, 7, 7, 7, 7, 7, 7, 7, 7, 7, 7, 7, 7, 7, 7, 7, 7, 7, 7, 7, 7, 7, 7, 7, 7, 7, 7, 7, 7, 7, 7, 7, 7, 7, 7, 8, 8, 8, 8, 8, 8, 8, 8, 8, 8, 8, 8, 8, 8, 8, 8, 8, 8, 8, 8, 8, 8, 8, 8, 8, 8, 8, 8, 8, 8, 8, 8, 8, 8, 8, 8, 8, 8, 8, 8, 8, 8, 8, 8, 8, 8, 8, 8, 8, 8, 8, 8, 8, 8, 8, 8, 8, 8, 8, 8, 8, 8, 8, 8, 8, 8, 8, 8, 8, 8, 8, 8, 8, 8, 8, 8, 8, 8, 8, 8, 8, 8, 8, 8, 8, 8, 8, 8, 8, 8, 8, 8, 8, 8, 8, 8, 8, 8, 8, 8, 8, 8, 8, 8, 8, 8, 8, 8, 8, 8, 8, 8, 8, 8, 8, 8, 8, 8, 8, 8, 8, 8, 8, 8, 8, 8, 8, 8]⟩ : ByteArray)[v.toNat]'h).toNat : Int) = (bl v.toNat : Int) := by
  have h2 : v.toNat < 256 := by omega
  exact congrArg (Int.ofNat ·) (tab_bl ⟨v.toNat, h2⟩)
theorem bl_small {v : Int} (h0 : 0 ≤ v) (h1 : v < 256) : (bl v.toNat : Int) ≤ 8 := by have := (bl_lt (n := v.toNat) (k := 8)).2 (by omega); omega
theorem bl_nn (n : Nat) : 0 ≤ (bl n : Int) := by omega
def bits_Len64.f (a0 : Int) : Option Int := some (bl a0.toNat : Int)
theorem ret_i64 {a b : Int} (h : a = b) : Ending.returned (.int .i64 a) = .returned (.int .i64 b) := by rw [h]
set_option maxHeartbeats 8000000 in
set_option maxRecDepth 100000 in
theorem bits_Len64.calls0 (a0 : Int) (h0 : 0 ≤ a0) (h1 : a0 ≤ 18446744073709551615) (w : World) : Calls Try.prog 84 #[.int .u64 a0] w fun e w' => e = .returned (.int .i64 (bl a0.toNat : Int)) ∧ w = w' := by
  by_cases c0 : 4294967296 ≤ a0
  · have b0 := decide_eq_true c0
    by_cases c1 : 65536 ≤ a0 / 4294967296
    · have b1 := decide_eq_true c1
      by_cases c2 : 256 ≤ a0 / 4294967296 / 65536
      · have b2 := decide_eq_true c2
        have hx0 : 0 ≤ a0 / 4294967296 / 65536 / 256 := by omega
        have hx1 : a0 / 4294967296 / 65536 / 256 < 256 := by omega
        have hb := bl_small hx0 hx1
        have ht := tab_bl' (a0 / 4294967296 / 65536 / 256) hx0 hx1 (by show (a0 / 4294967296 / 65536 / 256).toNat < 256; omega)
        have hd : (bl a0.toNat : Int) = 56 + bl (a0 / 4294967296 / 65536 / 256).toNat := by
          have := bl_div (n := a0.toNat) (j := 56) (by omega)
          rw [this, show a0.toNat / 2 ^ 56 = (a0 / 4294967296 / 65536 / 256).toNat from by omega]
          rfl
        have HD := Aside0.mk hd
        clear hd
        have HT := Aside0.mk ht
        have HBS := Aside0.mk hb
        clear ht hb
        go_enter Try.func84, Try.ntmps84
        go_wp2
        go_ret
        refine ⟨ret_i64 ?_, rfl⟩
        rw [HD.out, HT.out]
        have e2 := HBS.out
        have e3 := bl_nn (a0 / 4294967296 / 65536 / 256).toNat
        generalize (bl (a0 / 4294967296 / 65536 / 256).toNat : Int) = z at e2 e3 ⊢
        unfold wrap64
        omega
      · have b2 := decide_eq_false c2
        have hx0 : 0 ≤ a0 / 4294967296 / 65536 := by omega
        have hx1 : a0 / 4294967296 / 65536 < 256 := by omega
        have hb := bl_small hx0 hx1
        have ht := tab_bl' (a0 / 4294967296 / 65536) hx0 hx1 (by show (a0 / 4294967296 / 65536).toNat < 256; omega)
        have hd : (bl a0.toNat : Int) = 48 + bl (a0 / 4294967296 / 65536).toNat := by
          have := bl_div (n := a0.toNat) (j := 48) (by omega)
          rw [this, show a0.toNat / 2 ^ 48 = (a0 / 4294967296 / 65536).toNat from by omega]
          rfl
        have HD := Aside0.mk hd
        clear hd
        have HT := Aside0.mk ht
        have HBS := Aside0.mk hb
        clear ht hb
        go_enter Try.func84, Try.ntmps84
        go_wp2
        go_ret
        refine ⟨ret_i64 ?_, rfl⟩
        rw [HD.out, HT.out]
        have e2 := HBS.out
        have e3 := bl_nn (a0 / 4294967296 / 65536).toNat
        generalize (bl (a0 / 4294967296 / 65536).toNat : Int) = z at e2 e3 ⊢
        unfold wrap64
        omega
    · have b1 := decide_eq_false c1
      by_cases c2 : 256 ≤ a0 / 4294967296
      · have b2 := decide_eq_true c2
        have hx0 : 0 ≤ a0 / 4294967296 / 256 := by omega
        have hx1 : a0 / 4294967296 / 256 < 256 := by omega
        have hb := bl_small hx0 hx1
        have ht := tab_bl' (a0 / 4294967296 / 256) hx0 hx1 (by show (a0 / 4294967296 / 256).toNat < 256; omega)
        have hd : (bl a0.toNat : Int) = 40 + bl (a0 / 4294967296 / 256).toNat := by
          have := bl_div (n := a0.toNat) (j := 40) (by omega)
          rw [this, show a0.toNat / 2 ^ 40 = (a0 / 4294967296 / 256).toNat from by omega]
          rfl
        have HD := Aside0.mk hd
        clear hd
        have HT := Aside0.mk ht
        have HBS := Aside0.mk hb
        clear ht hb
        go_enter Try.func84, Try.ntmps84
        go_wp2
        go_ret
        refine ⟨ret_i64 ?_, rfl⟩
        rw [HD.out, HT.out]
        have e2 := HBS.out
        have e3 := bl_nn (a0 / 4294967296 / 256).toNat
        generalize (bl (a0 / 4294967296 / 256).toNat : Int) = z at e2 e3 ⊢
        unfold wrap64
        omega
      · have b2 := decide_eq_false c2
        have hx0 : 0 ≤ a0 / 4294967296 := by omega
        have hx1 : a0 / 4294967296 < 256 := by omega
        have hb := bl_small hx0 hx1
        have ht := tab_bl' (a0 / 4294967296) hx0 hx1 (by show (a0 / 4294967296).toNat < 256; omega)
        have hd : (bl a0.toNat : Int) = 32 + bl (a0 / 4294967296).toNat := by
          have := bl_div (n := a0.toNat) (j := 32) (by omega)
          rw [this, show a0.toNat / 2 ^ 32 = (a0 / 4294967296).toNat from by omega]
          rfl
        have HD := Aside0.mk hd
        clear hd
        have HT := Aside0.mk ht
        have HBS := Aside0.mk hb
        clear ht hb
        go_enter Try.func84, Try.ntmps84
        go_wp2
        go_ret
        refine ⟨ret_i64 ?_, rfl⟩
        rw [HD.out, HT.out]
        have e2 := HBS.out
        have e3 := bl_nn (a0 / 4294967296).toNat
        generalize (bl (a0 / 4294967296).toNat : Int) = z at e2 e3 ⊢
        unfold wrap64
        omega
  · have b0 := decide_eq_false c0
    by_cases c1 : 65536 ≤ a0
    · have b1 := decide_eq_true c1
      by_cases c2 : 256 ≤ a0 / 65536
      · have b2 := decide_eq_true c2
        have hx0 : 0 ≤ a0 / 65536 / 256 := by omega
        have hx1 : a0 / 65536 / 256 < 256 := by omega
        have hb := bl_small hx0 hx1
        have ht := tab_bl' (a0 / 65536 / 256) hx0 hx1 (by show (a0 / 65536 / 256).toNat < 256; omega)
        have hd : (bl a0.toNat : Int) = 24 + bl (a0 / 65536 / 256).toNat := by
          have := bl_div (n := a0.toNat) (j := 24) (by omega)
          rw [this, show a0.toNat / 2 ^ 24 = (a0 / 65536 / 256).toNat from by omega]
          rfl
        have HD := Aside0.mk hd
        clear hd
        have HT := Aside0.mk ht
        have HBS := Aside0.mk hb
        clear ht hb
        go_enter Try.func84, Try.ntmps84
        go_wp2
        go_ret
        refine ⟨ret_i64 ?_, rfl⟩
        rw [HD.out, HT.out]
        have e2 := HBS.out
        have e3 := bl_nn (a0 / 65536 / 256).toNat
        generalize (bl (a0 / 65536 / 256).toNat : Int) = z at e2 e3 ⊢
        unfold wrap64
        omega
      · have b2 := decide_eq_false c2
        have hx0 : 0 ≤ a0 / 65536 := by omega
        have hx1 : a0 / 65536 < 256 := by omega
        have hb := bl_small hx0 hx1
        have ht := tab_bl' (a0 / 65536) hx0 hx1 (by show (a0 / 65536).toNat < 256; omega)
        have hd : (bl a0.toNat : Int) = 16 + bl (a0 / 65536).toNat := by
          have := bl_div (n := a0.toNat) (j := 16) (by omega)
          rw [this, show a0.toNat / 2 ^ 16 = (a0 / 65536).toNat from by omega]
          rfl
        have HD := Aside0.mk hd
        clear hd
        have HT := Aside0.mk ht
        have HBS := Aside0.mk hb
        clear ht hb
        go_enter Try.func84, Try.ntmps84
        go_wp2
        go_ret
        refine ⟨ret_i64 ?_, rfl⟩
        rw [HD.out, HT.out]
        have e2 := HBS.out
        have e3 := bl_nn (a0 / 65536).toNat
        generalize (bl (a0 / 65536).toNat : Int) = z at e2 e3 ⊢
        unfold wrap64
        omega
    · have b1 := decide_eq_false c1
      by_cases c2 : 256 ≤ a0
      · have b2 := decide_eq_true c2
        have hx0 : 0 ≤ a0 / 256 := by omega
        have hx1 : a0 / 256 < 256 := by omega
        have hb := bl_small hx0 hx1
        have ht := tab_bl' (a0 / 256) hx0 hx1 (by show (a0 / 256).toNat < 256; omega)
        have hd : (bl a0.toNat : Int) = 8 + bl (a0 / 256).toNat := by
          have := bl_div (n := a0.toNat) (j := 8) (by omega)
          rw [this, show a0.toNat / 2 ^ 8 = (a0 / 256).toNat from by omega]
          rfl
        have HD := Aside0.mk hd
        clear hd
        have HT := Aside0.mk ht
        have HBS := Aside0.mk hb
        clear ht hb
        go_enter Try.func84, Try.ntmps84
        go_wp2
        go_ret
        refine ⟨ret_i64 ?_, rfl⟩
        rw [HD.out, HT.out]
        have e2 := HBS.out
        have e3 := bl_nn (a0 / 256).toNat
        generalize (bl (a0 / 256).toNat : Int) = z at e2 e3 ⊢
        unfold wrap64
        omega
      · have b2 := decide_eq_false c2
        have hx0 : 0 ≤ a0 := by omega
        have hx1 : a0 < 256 := by omega
        have hb := bl_small hx0 hx1
        have ht := tab_bl' (a0) hx0 hx1 (by show (a0).toNat < 256; omega)
        have HT := Aside0.mk ht
        have HBS := Aside0.mk hb
        clear ht hb
        go_enter Try.func84, Try.ntmps84
        go_wp2
        go_ret
        refine ⟨ret_i64 ?_, rfl⟩
        rw [HT.out]
        have e2 := HBS.out
        have e3 := bl_nn (a0).toNat
        generalize (bl (a0).toNat : Int) = z at e2 e3 ⊢
        unfold wrap64
        omega
end Go.Proofs.Ytfjhlcbpogihmaa.Pr
namespace Go.Proofs.Ytfjhlcbpogihmaa.Pr
open Go.RowKit Go.Proofs.YtfjhlcbpogihmaaW.PrintWords Go.Proofs.YtfjhlcbpogihmaaW.PrintLast Go.Proofs.YtfjhlcbpogihmaaW.PrintMore
set_option linter.unusedVariables false
set_option linter.unusedSimpArgs false
/-- How many bytes a number has. -/
def sizeI (a0 : Int) : Int := if a0 < 64 then 1 else if a0 < 16384 then 2 else if a0 < 1073741824 then 4 else if a0 < 4611686018427387904 then 8 else 0
def inU64 (a0 : Int) : Prop := 0 ≤ a0 ∧ a0 ≤ 18446744073709551615
instance (a0 : Int) : Decidable (inU64 a0) := inferInstanceAs (Decidable (_ ∧ _))
def pack_Size.f (a0 : Int) : Option Int := if inU64 a0 then some (sizeI a0) else none
set_option maxHeartbeats 4000000 in
set_option maxRecDepth 100000 in
theorem pack_Size.calls0 (a0 : Int) (hi : inU64 a0) (w : World) : Calls Try.prog 53 #[.int .u64 a0] w fun e w' => e = .returned (.int .i64 (sizeI a0)) ∧ w = w' := by
  have HL := Aside0.mk (bits_Len64.calls0 a0 hi.1 hi.2)
  have t6 : bl a0.toNat ≤ 6 ↔ a0 < 64 := by
    rw [bl_lt]
    have := hi.1
    omega
  have t14 : bl a0.toNat ≤ 14 ↔ a0 < 16384 := by
    rw [bl_lt]
    have := hi.1
    omega
  have t30 : bl a0.toNat ≤ 30 ↔ a0 < 1073741824 := by
    rw [bl_lt]
    have := hi.1
    omega
  have t62 : bl a0.toNat ≤ 62 ↔ a0 < 4611686018427387904 := by
    rw [bl_lt]
    have := hi.1
    omega
  obtain ⟨h0, h1⟩ := hi
  generalize bl a0.toNat = z at HL t6 t14 t30 t62
  by_cases c0 : a0 < 64
  · have hs : sizeI a0 = 1 := by unfold sizeI; rw [if_pos c0]
    rw [hs]
    have d6 : decide ((6 : Int) < (z : Int)) = false := decide_eq_false (by omega)
    have d14 : decide ((14 : Int) < (z : Int)) = false := decide_eq_false (by omega)
    have d30 : decide ((30 : Int) < (z : Int)) = false := decide_eq_false (by omega)
    have d62 : decide ((62 : Int) < (z : Int)) = false := decide_eq_false (by omega)
    clear hs t6 t14 t30 t62 c0 h0 h1
    go_enter Try.func53, Try.ntmps53
    go_wp2_with (go_at_call 84; refine (HL.out _).mono ?_; rintro e w' ⟨rfl, rfl⟩)
    go_ret
    exact ⟨rfl, rfl⟩
  · by_cases c1 : a0 < 16384
    · have hs : sizeI a0 = 2 := by unfold sizeI; rw [if_neg c0]; rw [if_pos c1]
      rw [hs]
      have d6 : decide ((6 : Int) < (z : Int)) = true := decide_eq_true (by omega)
      have d14 : decide ((14 : Int) < (z : Int)) = false := decide_eq_false (by omega)
      have d30 : decide ((30 : Int) < (z : Int)) = false := decide_eq_false (by omega)
      have d62 : decide ((62 : Int) < (z : Int)) = false := decide_eq_false (by omega)
      clear hs t6 t14 t30 t62 c0 c1 h0 h1
      go_enter Try.func53, Try.ntmps53
      go_wp2_with (go_at_call 84; refine (HL.out _).mono ?_; rintro e w' ⟨rfl, rfl⟩)
      go_ret
      exact ⟨rfl, rfl⟩
    · by_cases c2 : a0 < 1073741824
      · have hs : sizeI a0 = 4 := by unfold sizeI; rw [if_neg c0]; rw [if_neg c1]; rw [if_pos c2]
        rw [hs]
        have d6 : decide ((6 : Int) < (z : Int)) = true := decide_eq_true (by omega)
        have d14 : decide ((14 : Int) < (z : Int)) = true := decide_eq_true (by omega)
        have d30 : decide ((30 : Int) < (z : Int)) = false := decide_eq_false (by omega)
        have d62 : decide ((62 : Int) < (z : Int)) = false := decide_eq_false (by omega)
        clear hs t6 t14 t30 t62 c0 c1 c2 h0 h1
        go_enter Try.func53, Try.ntmps53
        go_wp2_with (go_at_call 84; refine (HL.out _).mono ?_; rintro e w' ⟨rfl, rfl⟩)
        go_ret
        exact ⟨rfl, rfl⟩
      · by_cases c3 : a0 < 4611686018427387904
        · have hs : sizeI a0 = 8 := by unfold sizeI; rw [if_neg c0]; rw [if_neg c1]; rw [if_neg c2]; rw [if_pos c3]
          rw [hs]
          have d6 : decide ((6 : Int) < (z : Int)) = true := decide_eq_true (by omega)
          have d14 : decide ((14 : Int) < (z : Int)) = true := decide_eq_true (by omega)
          have d30 : decide ((30 : Int) < (z : Int)) = true := decide_eq_true (by omega)
          have d62 : decide ((62 : Int) < (z : Int)) = false := decide_eq_false (by omega)
          clear hs t6 t14 t30 t62 c0 c1 c2 c3 h0 h1
          go_enter Try.func53, Try.ntmps53
          go_wp2_with (go_at_call 84; refine (HL.out _).mono ?_; rintro e w' ⟨rfl, rfl⟩)
          go_ret
          exact ⟨rfl, rfl⟩
        · have hs : sizeI a0 = 0 := by unfold sizeI; rw [if_neg c0]; rw [if_neg c1]; rw [if_neg c2]; rw [if_neg c3]
          rw [hs]
          have d6 : decide ((6 : Int) < (z : Int)) = true := decide_eq_true (by omega)
          have d14 : decide ((14 : Int) < (z : Int)) = true := decide_eq_true (by omega)
          have d30 : decide ((30 : Int) < (z : Int)) = true := decide_eq_true (by omega)
          have d62 : decide ((62 : Int) < (z : Int)) = true := decide_eq_true (by omega)
          clear hs t6 t14 t30 t62 c0 c1 c2 c3 h0 h1
          go_enter Try.func53, Try.ntmps53
          go_wp2_with (go_at_call 84; refine (HL.out _).mono ?_; rintro e w' ⟨rfl, rfl⟩)
          go_ret
          exact ⟨rfl, rfl⟩
theorem pack_Size.calls (a0 : Int) (r : Int) (w : World) (h : pack_Size.f a0 = some r) : Calls Try.prog 53 #[.int .u64 a0] w fun e w' => e = .returned (.int .i64 r) ∧ Drawn0 w w' := by
  unfold pack_Size.f at h
  by_cases hi : inU64 a0
  · rw [if_pos hi] at h
    obtain rfl := Option.some.inj h
    exact (pack_Size.calls0 a0 hi w).mono fun _ _ ⟨he, hw⟩ => ⟨he, hw ▸ Drawn0.refl _⟩
  · rw [if_neg hi] at h
    cases h
set_option maxRecDepth 100000 in
theorem tz_1 (w : World) : Calls Try.prog 86 #[.int .u8 1] w fun e w' => e = .returned (.int .i64 0) ∧ w = w' := by
  go_enter Try.func86, Try.ntmps86
  go_wp2
  go_ret
  exact ⟨ret_i64 (by decide +kernel), rfl⟩
set_option maxRecDepth 100000 in
theorem tz_2 (w : World) : Calls Try.prog 86 #[.int .u8 2] w fun e w' => e = .returned (.int .i64 1) ∧ w = w' := by
  go_enter Try.func86, Try.ntmps86
  go_wp2
  go_ret
  exact ⟨ret_i64 (by decide +kernel), rfl⟩
set_option maxRecDepth 100000 in
theorem tz_4 (w : World) : Calls Try.prog 86 #[.int .u8 4] w fun e w' => e = .returned (.int .i64 2) ∧ w = w' := by
  go_enter Try.func86, Try.ntmps86
  go_wp2
  go_ret
  exact ⟨ret_i64 (by decide +kernel), rfl⟩
set_option maxRecDepth 100000 in
theorem tz_8 (w : World) : Calls Try.prog 86 #[.int .u8 8] w fun e w' => e = .returned (.int .i64 3) ∧ w = w' := by
  go_enter Try.func86, Try.ntmps86
  go_wp2
  go_ret
  exact ⟨ret_i64 (by decide +kernel), rfl⟩
end Go.Proofs.Ytfjhlcbpogihmaa.Pr
namespace Go.Proofs.Ytfjhlcbpogihmaa.Pr
open Go.RowKit Go.Proofs.YtfjhlcbpogihmaaW.PrintWords Go.Proofs.YtfjhlcbpogihmaaW.PrintLast Go.Proofs.YtfjhlcbpogihmaaW.PrintMore
open Go.Proofs.Ytfjhlcbpogihmaa.Hnd
attribute [local go_sem] setCell_drewN_ alloc_drewN_
set_option linter.unusedVariables false
set_option linter.unusedSimpArgs false
theorem heap_at2 (w : World) (a b : Obj) : ((w.alloc a).alloc b).drew.heap[w.heap.size + 1]? = some b := by
  have h := blk_new (w.alloc a) b
  rw [World.size_alloc] at h
  exact h
theorem prefix_get {α : Type} {cs rest : List α} {j : Nat} {x : α} (h : cs[j]? = some x) : (cs ++ rest)[j]? = some x := by rw [List.getElem?_append_left (List.getElem?_eq_some_iff.1 h).1]; exact h
theorem sizeI_1 {v : Int} (h0 : 0 ≤ v) (h1 : v < 64) : sizeI v = 1 := by
  unfold sizeI
  rw [if_pos (by omega)]
theorem sizeI_2 {v : Int} (h0 : 64 ≤ v) (h1 : v < 16384) : sizeI v = 2 := by
  unfold sizeI
  rw [if_neg (by omega)]; rw [if_pos (by omega)]
theorem sizeI_4 {v : Int} (h0 : 16384 ≤ v) (h1 : v < 1073741824) : sizeI v = 4 := by
  unfold sizeI
  rw [if_neg (by omega)]; rw [if_neg (by omega)]; rw [if_pos (by omega)]
theorem sizeI_8 {v : Int} (h0 : 1073741824 ≤ v) (h1 : v < 4611686018427387904) : sizeI v = 8 := by
  unfold sizeI
  rw [if_neg (by omega)]; rw [if_neg (by omega)]; rw [if_neg (by omega)]; rw [if_pos (by omega)]
theorem sizeI_0 {v : Int} (h0 : 4611686018427387904 ≤ v) : sizeI v = 0 := by
  unfold sizeI
  rw [if_neg (by omega)]; rw [if_neg (by omega)]; rw [if_neg (by omega)]; rw [if_neg (by omega)]
/-- The bytes of a number of 1. -/
def num1 (v : Int) : List Int := [Go.bits .or .u8 (v) 0]
set_option maxHeartbeats 8000000 in
set_option maxRecDepth 100000 in
theorem num1_calls (v : Int) (w : World) (h0 : 0 ≤ v) (h1 : v < 64) :
    Calls Try.prog 58 #[.int .u64 v] w fun e w' => e = .returned (.tuple #[.string (strOfNums (num1 v)), .int .i64 0]) ∧ Below w.heap.size w w' := by
  have HS := fun W => Aside0.mk (sizeI_1 h0 h1 ▸ pack_Size.calls0 v ⟨by omega, by omega⟩ W)
  have hmk : ∀ W : World, (Instr.makeSlice 81 (.int .i64 1) (.int .i64 1)).run Try.prog W = .ok (.slice (some ⟨W.heap.size, 0, none⟩) 1 1) (W.alloc (.cells #[.int .u8 0] 5)) := fun _ => by kernel_rfl
  have HN := Aside0.mk (show num1 v = [Go.bits .or .u8 (v) 0] from rfl)
  go_enter Try.func58, Try.ntmps58
  go_wp2_with (go_at_call 53; refine (HS _).out.mono ?_; rintro e w' ⟨rfl, rfl⟩)
  refine wp_loop_rounds 2 ?_
  iterate 2 (rw [rounds_succ]; go_wp2)
  go_region_with (go_at_call 86; refine (tz_1 _).mono ?_; rintro e w2 ⟨rfl, rfl⟩)
  all_goals
    go_wp2_with (with_reducible refine wpList_copy_splice rfl (.tmp 38) (.tmp 40) 81 81 rfl 5 Try.underlying81 (by kernel_rfl) (some ⟨w.heap.size + 1, 0, none⟩) (some ⟨w.heap.size, 0, none⟩) 1 1 1 8 rfl rfl (w.heap.size + 1) 0 [(.int .u8 0 : Value)] 5 ?_ [(.int .u8 (Go.bits .or .u8 (v) 0) : Value)] rfl ?_ (by simp) ?_ w.heap.size w ?_ (Nat.le_succ _) ?_)
    any_goals (first | (with_reducible exact heap_at2 w _ _) | exact (((Below.refl _ w).alloc (Nat.le_refl _) _).alloc (by simp) _).drew | exact fun j x hj => prefix_get (rest := [(.int .u8 0 : Value), (.int .u8 0 : Value), (.int .u8 0 : Value), (.int .u8 0 : Value), (.int .u8 0 : Value), (.int .u8 0 : Value), (.int .u8 0 : Value)]) hj | (simp [Value.oneCell']; done))
    intro w3 HG HB
    have HO : w3.ownsRow 0 5 1 (.slice (some ⟨w.heap.size + 1, 0, none⟩) 1 1) 1 (nums .u8 [Go.bits .or .u8 (v) 0]) := ⟨rfl, .inr ⟨_, 1, _, rfl, Nat.zero_le _, HG.out, Nat.le_refl _, by decide, rfl, rfl⟩⟩
    have hcv := own_string (src := 81) (dst := 9) Try.underlying81 Try.underlying5 Try.underlying9 HO
    clear HO HG
    have HB1 := Aside0.mk HB
    clear HB
    go_wp2
    go_ret2
    exact ⟨by rw [HN.out]; rfl, HB1.out⟩
/-- The bytes of a number of 2. -/
def num2 (v : Int) : List Int := [Go.bits .or .u8 (v / 256) 64, v % 256]
set_option maxHeartbeats 8000000 in
set_option maxRecDepth 100000 in
theorem num2_calls (v : Int) (w : World) (h0 : 64 ≤ v) (h1 : v < 16384) :
    Calls Try.prog 58 #[.int .u64 v] w fun e w' => e = .returned (.tuple #[.string (strOfNums (num2 v)), .int .i64 0]) ∧ Below w.heap.size w w' := by
  have HS := fun W => Aside0.mk (sizeI_2 h0 h1 ▸ pack_Size.calls0 v ⟨by omega, by omega⟩ W)
  have hmk : ∀ W : World, (Instr.makeSlice 81 (.int .i64 2) (.int .i64 2)).run Try.prog W = .ok (.slice (some ⟨W.heap.size, 0, none⟩) 2 2) (W.alloc (.cells #[.int .u8 0, .int .u8 0] 5)) := fun _ => by kernel_rfl
  have HN := Aside0.mk (show num2 v = [Go.bits .or .u8 (v / 256) 64, v % 256] from rfl)
  go_enter Try.func58, Try.ntmps58
  go_wp2_with (go_at_call 53; refine (HS _).out.mono ?_; rintro e w' ⟨rfl, rfl⟩)
  refine wp_loop_rounds 3 ?_
  iterate 3 (rw [rounds_succ]; go_wp2)
  go_region_with (go_at_call 86; refine (tz_2 _).mono ?_; rintro e w2 ⟨rfl, rfl⟩)
  all_goals
    go_wp2_with (with_reducible refine wpList_copy_splice rfl (.tmp 38) (.tmp 40) 81 81 rfl 5 Try.underlying81 (by kernel_rfl) (some ⟨w.heap.size + 1, 0, none⟩) (some ⟨w.heap.size, 0, none⟩) 2 2 2 8 rfl rfl (w.heap.size + 1) 0 [(.int .u8 0 : Value), (.int .u8 0 : Value)] 5 ?_ [(.int .u8 (Go.bits .or .u8 (v / 256) 64) : Value), (.int .u8 (v % 256) : Value)] rfl ?_ (by simp) ?_ w.heap.size w ?_ (Nat.le_succ _) ?_)
    any_goals (first | (with_reducible exact heap_at2 w _ _) | exact (((Below.refl _ w).alloc (Nat.le_refl _) _).alloc (by simp) _).drew | exact fun j x hj => prefix_get (rest := [(.int .u8 0 : Value), (.int .u8 0 : Value), (.int .u8 0 : Value), (.int .u8 0 : Value), (.int .u8 0 : Value), (.int .u8 0 : Value)]) hj | (simp [Value.oneCell']; done))
    intro w3 HG HB
    have HO : w3.ownsRow 0 5 1 (.slice (some ⟨w.heap.size + 1, 0, none⟩) 2 2) 2 (nums .u8 [Go.bits .or .u8 (v / 256) 64, v % 256]) := ⟨rfl, .inr ⟨_, 2, _, rfl, Nat.zero_le _, HG.out, Nat.le_refl _, by decide, rfl, rfl⟩⟩
    have hcv := own_string (src := 81) (dst := 9) Try.underlying81 Try.underlying5 Try.underlying9 HO
    clear HO HG
    have HB1 := Aside0.mk HB
    clear HB
    go_wp2
    go_ret2
    exact ⟨by rw [HN.out]; rfl, HB1.out⟩
/-- The bytes of a number of 4. -/
def num4 (v : Int) : List Int := [Go.bits .or .u8 (v / 16777216) 128, v / 65536 % 256, v / 256 % 256, v % 256]
set_option maxHeartbeats 8000000 in
set_option maxRecDepth 100000 in
theorem num4_calls (v : Int) (w : World) (h0 : 16384 ≤ v) (h1 : v < 1073741824) :
    Calls Try.prog 58 #[.int .u64 v] w fun e w' => e = .returned (.tuple #[.string (strOfNums (num4 v)), .int .i64 0]) ∧ Below w.heap.size w w' := by
  have HS := fun W => Aside0.mk (sizeI_4 h0 h1 ▸ pack_Size.calls0 v ⟨by omega, by omega⟩ W)
  have hmk : ∀ W : World, (Instr.makeSlice 81 (.int .i64 4) (.int .i64 4)).run Try.prog W = .ok (.slice (some ⟨W.heap.size, 0, none⟩) 4 4) (W.alloc (.cells #[.int .u8 0, .int .u8 0, .int .u8 0, .int .u8 0] 5)) := fun _ => by kernel_rfl
  have HN := Aside0.mk (show num4 v = [Go.bits .or .u8 (v / 16777216) 128, v / 65536 % 256, v / 256 % 256, v % 256] from rfl)
  go_enter Try.func58, Try.ntmps58
  go_wp2_with (go_at_call 53; refine (HS _).out.mono ?_; rintro e w' ⟨rfl, rfl⟩)
  refine wp_loop_rounds 5 ?_
  iterate 5 (rw [rounds_succ]; go_wp2)
  go_region_with (go_at_call 86; refine (tz_4 _).mono ?_; rintro e w2 ⟨rfl, rfl⟩)
  all_goals
    go_wp2_with (with_reducible refine wpList_copy_splice rfl (.tmp 38) (.tmp 40) 81 81 rfl 5 Try.underlying81 (by kernel_rfl) (some ⟨w.heap.size + 1, 0, none⟩) (some ⟨w.heap.size, 0, none⟩) 4 4 4 8 rfl rfl (w.heap.size + 1) 0 [(.int .u8 0 : Value), (.int .u8 0 : Value), (.int .u8 0 : Value), (.int .u8 0 : Value)] 5 ?_ [(.int .u8 (Go.bits .or .u8 (v / 16777216) 128) : Value), (.int .u8 (v / 65536 % 256) : Value), (.int .u8 (v / 256 % 256) : Value), (.int .u8 (v % 256) : Value)] rfl ?_ (by simp) ?_ w.heap.size w ?_ (Nat.le_succ _) ?_)
    any_goals (first | (with_reducible exact heap_at2 w _ _) | exact (((Below.refl _ w).alloc (Nat.le_refl _) _).alloc (by simp) _).drew | exact fun j x hj => prefix_get (rest := [(.int .u8 0 : Value), (.int .u8 0 : Value), (.int .u8 0 : Value), (.int .u8 0 : Value)]) hj | (simp [Value.oneCell']; done))
    intro w3 HG HB
    have HO : w3.ownsRow 0 5 1 (.slice (some ⟨w.heap.size + 1, 0, none⟩) 4 4) 4 (nums .u8 [Go.bits .or .u8 (v / 16777216) 128, v / 65536 % 256, v / 256 % 256, v % 256]) := ⟨rfl, .inr ⟨_, 4, _, rfl, Nat.zero_le _, HG.out, Nat.le_refl _, by decide, rfl, rfl⟩⟩
    have hcv := own_string (src := 81) (dst := 9) Try.underlying81 Try.underlying5 Try.underlying9 HO
    clear HO HG
    have HB1 := Aside0.mk HB
    clear HB
    go_wp2
    go_ret2
    exact ⟨by rw [HN.out]; rfl, HB1.out⟩
/-- The bytes of a number of 8. -/
def num8 (v : Int) : List Int := [Go.bits .or .u8 (v / 72057594037927936) 192, v / 281474976710656 % 256, v / 1099511627776 % 256, v / 4294967296 % 256, v / 16777216 % 256, v / 65536 % 256, v / 256 % 256, v % 256]
set_option maxHeartbeats 8000000 in
set_option maxRecDepth 100000 in
theorem num8_calls (v : Int) (w : World) (h0 : 1073741824 ≤ v) (h1 : v < 4611686018427387904) :
    Calls Try.prog 58 #[.int .u64 v] w fun e w' => e = .returned (.tuple #[.string (strOfNums (num8 v)), .int .i64 0]) ∧ Below w.heap.size w w' := by
  have HS := fun W => Aside0.mk (sizeI_8 h0 h1 ▸ pack_Size.calls0 v ⟨by omega, by omega⟩ W)
  have hmk : ∀ W : World, (Instr.makeSlice 81 (.int .i64 8) (.int .i64 8)).run Try.prog W = .ok (.slice (some ⟨W.heap.size, 0, none⟩) 8 8) (W.alloc (.cells #[.int .u8 0, .int .u8 0, .int .u8 0, .int .u8 0, .int .u8 0, .int .u8 0, .int .u8 0, .int .u8 0] 5)) := fun _ => by kernel_rfl
  have HN := Aside0.mk (show num8 v = [Go.bits .or .u8 (v / 72057594037927936) 192, v / 281474976710656 % 256, v / 1099511627776 % 256, v / 4294967296 % 256, v / 16777216 % 256, v / 65536 % 256, v / 256 % 256, v % 256] from rfl)
  go_enter Try.func58, Try.ntmps58
  go_wp2_with (go_at_call 53; refine (HS _).out.mono ?_; rintro e w' ⟨rfl, rfl⟩)
  refine wp_loop_rounds 9 ?_
  iterate 9 (rw [rounds_succ]; go_wp2)
  go_region_with (go_at_call 86; refine (tz_8 _).mono ?_; rintro e w2 ⟨rfl, rfl⟩)
  all_goals
    go_wp2_with (with_reducible refine wpList_copy_splice rfl (.tmp 38) (.tmp 40) 81 81 rfl 5 Try.underlying81 (by kernel_rfl) (some ⟨w.heap.size + 1, 0, none⟩) (some ⟨w.heap.size, 0, none⟩) 8 8 8 8 rfl rfl (w.heap.size + 1) 0 [(.int .u8 0 : Value), (.int .u8 0 : Value), (.int .u8 0 : Value), (.int .u8 0 : Value), (.int .u8 0 : Value), (.int .u8 0 : Value), (.int .u8 0 : Value), (.int .u8 0 : Value)] 5 ?_ [(.int .u8 (Go.bits .or .u8 (v / 72057594037927936) 192) : Value), (.int .u8 (v / 281474976710656 % 256) : Value), (.int .u8 (v / 1099511627776 % 256) : Value), (.int .u8 (v / 4294967296 % 256) : Value), (.int .u8 (v / 16777216 % 256) : Value), (.int .u8 (v / 65536 % 256) : Value), (.int .u8 (v / 256 % 256) : Value), (.int .u8 (v % 256) : Value)] rfl ?_ (by simp) ?_ w.heap.size w ?_ (Nat.le_succ _) ?_)
    any_goals (first | (with_reducible exact heap_at2 w _ _) | exact (((Below.refl _ w).alloc (Nat.le_refl _) _).alloc (by simp) _).drew | exact fun j x hj => prefix_get (rest := []) hj | (simp [Value.oneCell']; done))
    intro w3 HG HB
    have HO : w3.ownsRow 0 5 1 (.slice (some ⟨w.heap.size + 1, 0, none⟩) 8 8) 8 (nums .u8 [Go.bits .or .u8 (v / 72057594037927936) 192, v / 281474976710656 % 256, v / 1099511627776 % 256, v / 4294967296 % 256, v / 16777216 % 256, v / 65536 % 256, v / 256 % 256, v % 256]) := ⟨rfl, .inr ⟨_, 8, _, rfl, Nat.zero_le _, HG.out, Nat.le_refl _, by decide, rfl, rfl⟩⟩
    have hcv := own_string (src := 81) (dst := 9) Try.underlying81 Try.underlying5 Try.underlying9 HO
    clear HO HG
    have HB1 := Aside0.mk HB
    clear HB
    go_wp2
    go_ret2
    exact ⟨by rw [HN.out]; rfl, HB1.out⟩
set_option maxHeartbeats 8000000 in
set_option maxRecDepth 100000 in
theorem num0_calls (v : Int) (w : World) (h0 : 4611686018427387904 ≤ v) (h1 : v ≤ 18446744073709551615) :
    Calls Try.prog 58 #[.int .u64 v] w fun e w' => e = .returned (.tuple #[.string ⟨#[]⟩, .int .i64 4]) ∧ Below w.heap.size w w' := by
  have HS := fun W => Aside0.mk (sizeI_0 h0 ▸ pack_Size.calls0 v ⟨by omega, by omega⟩ W)
  go_enter Try.func58, Try.ntmps58
  go_wp2_with (go_at_call 53; refine (HS _).out.mono ?_; rintro e w' ⟨rfl, rfl⟩)
  go_ret2
  exact ⟨rfl, Below.refl _ _⟩
/-- A number's bytes, and whether it has any. -/
def numL (v : Int) : List Int := if v < 64 then num1 v else if v < 16384 then num2 v else if v < 1073741824 then num4 v else if v < 4611686018427387904 then num8 v else []
def numE (v : Int) : Int := if v < 4611686018427387904 then 0 else 4
def pack_Num.f (v : Int) : Option (ByteArray × Int) := if inU64 v then some (strOfNums (numL v), numE v) else none
theorem pack_Num.calls (a0 : Int) (r1 : ByteArray) (r2 : Int) (w : World) (h : pack_Num.f a0 = some (r1, r2)) : Calls Try.prog 58 #[.int .u64 a0] w fun e w' => e = .returned (.tuple #[.string r1, .int .i64 r2]) ∧ Below w.heap.size w w' := by
  unfold pack_Num.f at h
  by_cases hi : inU64 a0
  · rw [if_pos hi] at h
    simp only [Option.some.injEq, Prod.mk.injEq] at h
    obtain ⟨rfl, rfl⟩ := h
    obtain ⟨h0, h1⟩ := hi
    unfold numL numE
    by_cases c1 : a0 < 64
    · rw [if_pos c1, if_pos (by omega)]; exact num1_calls a0 w h0 c1
    · rw [if_neg c1]
      by_cases c2 : a0 < 16384
      · rw [if_pos c2, if_pos (by omega)]; exact num2_calls a0 w (by omega) c2
      · rw [if_neg c2]
        by_cases c3 : a0 < 1073741824
        · rw [if_pos c3, if_pos (by omega)]; exact num4_calls a0 w (by omega) c3
        · rw [if_neg c3]
          by_cases c4 : a0 < 4611686018427387904
          · rw [if_pos c4, if_pos c4]; exact num8_calls a0 w (by omega) c4
          · rw [if_neg c4, if_neg c4]; exact num0_calls a0 w (by omega) h1
  · rw [if_neg hi] at h
    cases h
end Go.Proofs.Ytfjhlcbpogihmaa.Pr
namespace Go.Proofs.Ytfjhlcbpogihmaa.Pr
open Go.RowKit Go.Proofs.YtfjhlcbpogihmaaW.PrintWords Go.Proofs.YtfjhlcbpogihmaaW.PrintLast Go.Proofs.YtfjhlcbpogihmaaW.PrintMore
open Go.Proofs.Ytfjhlcbpogihmaa.Hnd
attribute [local go_sem] setCell_drewN_ alloc_drewN_
set_option linter.unusedVariables false
set_option linter.unusedSimpArgs false
/-- The two halves behind the first n bytes. -/
def half (s : ByteArray) : Nat → Int × Int
  | 0 => (1, 0)
  | n + 1 => (((half s n).1 + bt s n) % 65521, ((half s n).2 + ((half s n).1 + bt s n) % 65521) % 65521)
def sumI (s : ByteArray) : Int := (half s s.size).2 * 65536 + (half s s.size).1
theorem half_range (s : ByteArray) : ∀ n, 0 ≤ (half s n).1 ∧ (half s n).1 < 65521 ∧ 0 ≤ (half s n).2 ∧ (half s n).2 < 65521
  | 0 => by simp [half]
  | n + 1 => by
    simp only [half]
    omega
theorem wrap64_big {x : Int} (h0 : 0 ≤ x) (h1 : x ≤ 4611686018427387905) : wrap64 x = x := by
  simp [wrap64]
  omega
def seal_Sum.f (a0 : ByteArray) : Option Int := if a0.size ≤ 4611686018427387904 then some (sumI a0) else none
set_option maxHeartbeats 1000000 in
set_option maxRecDepth 100000 in
theorem seal_Sum.calls (a0 : ByteArray) (r : Int) (w : World) (h : seal_Sum.f a0 = some r) : Calls Try.prog 79 #[.string a0] w fun e w' => e = .returned (.int .u32 r) ∧ Below w.heap.size w w' := by
  unfold seal_Sum.f at h
  by_cases hs : a0.size ≤ 4611686018427387904
  rotate_left
  · rw [if_neg hs] at h; cases h
  rw [if_pos hs] at h
  obtain rfl := Option.some.inj h
  clear h
  have HS := Aside0.mk hs
  clear hs
  go_enter Try.func79, Try.ntmps79
  go_wp2_with fail
  go_loopg [8] a0.size (fun g v8 wr => ∃ i : Nat, v8 = .int .i64 (i : Int) ∧ Aside0 (i ≤ a0.size ∧ a0.size - i ≤ g) ∧ Aside0 (wr.heap[w.heap.size]? = some (.cells #[.int .u32 (half a0 i).1, .int .u32 (half a0 i).2] 140 (0, 0))) ∧ Aside0 (Below w.heap.size w wr))
  case atStart =>
    refine ⟨0, rfl, ⟨by omega⟩, ⟨?_⟩, ⟨?_⟩⟩
    · exact blk_new w _
    · exact (Below.refl w.heap.size w).alloc (Nat.le_refl _) _
  case round =>
    obtain ⟨i, rfl, HI, HK, HB⟩ := hrel
    obtain ⟨x, y, hxy⟩ : ∃ x y, half a0 i = (x, y) := ⟨_, _, rfl⟩
    have hr := half_range a0 i
    rw [hxy] at HK hr
    have kb := fun o => blk_cell HK.out o
    have fb := fun o => blk_frozen HK.out o
    have zb := blk_lt HK.out
    have kb0 := kb 0
    have kb1 := kb 1
    by_cases hlt : (i : Int) < a0.size
    · have hltb := decide_eq_true hlt
      have hnat : i < a0.size := by omega
      have hbt : ((a0[i]'hnat).toNat : Int) = bt a0 i := bt_at a0 (i : Int) hnat
      have hbr := bt_range a0 i
      have hm1 : (x + bt a0 i) % 4294967296 % 65521 = (x + bt a0 i) % 65521 := by omega
      have hm2 : (y + (x + bt a0 i) % 65521) % 4294967296 % 65521 = (y + (x + bt a0 i) % 65521) % 65521 := by omega
      go_upto_region 5 with (fail)
      go_region
      have HK1 := Aside0.mk (blk_drew (blk_put (cs' := #[.int .u32 ((x + bt a0 i) % 65521), .int .u32 y]) HK.out 0 (.int .u32 ((x + bt a0 i) % 65521)) rfl))
      have HB1 := Aside0.mk ((HB.out.setCell (p := ⟨w.heap.size, 0, none⟩) (Nat.le_refl _) (.int .u32 ((x + bt a0 i) % 65521))).drew)
      clear kb fb zb kb0 kb1 HK HB
      obtain ⟨W1, hW⟩ : ∃ W1, (wr.setCell ⟨w.heap.size, 0, none⟩ (.int .u32 ((x + bt a0 i) % 65521))).drew = W1 := ⟨_, rfl⟩
      rw [hW] at HK1 HB1 ⊢
      clear hW
      obtain ⟨x1, hx1⟩ : ∃ x1, (x + bt a0 i) % 65521 = x1 := ⟨_, rfl⟩
      have hrx : 0 ≤ x1 ∧ x1 < 65521 := by omega
      have HX := Aside0.mk hx1
      rw [hx1] at HK1 hm2 ⊢
      clear hx1 hm1
      have kb := fun o => blk_cell HK1.out o
      have fb := fun o => blk_frozen HK1.out o
      have zb := blk_lt HK1.out
      have kb0 := kb 0
      have kb1 := kb 1
      go_wp2
      go_roundg (gk - 1)
      case measure => have := HI.out; omega
      case rel =>
        have hm3 : (y + x1) % 65521 = (half a0 (i + 1)).2 := by simp only [half, hxy]; rw [HX.out]
        have hm4 : x1 = (half a0 (i + 1)).1 := by simp only [half, hxy]; exact HX.out.symm
        refine ⟨i + 1, ?_, ⟨by have := HI.out; omega⟩, ⟨?_⟩, ⟨?_⟩⟩
        · rw [wrap64_big (by omega) (by have := HS.out; omega)]
          rfl
        · rw [← hm3, ← hm4]
          exact blk_put (cs' := #[.int .u32 x1, .int .u32 ((y + x1) % 65521)]) HK1.out 1 _ rfl
        · exact HB1.out.setCell (p := ⟨w.heap.size, 1, none⟩) (Nat.le_refl _) _
    · have hltb := decide_eq_false hlt
      have hie : i = a0.size := by have := HI.out; omega
      have hor : Go.bits .or .u32 (y * 65536) x = sumI a0 := by
        rw [bits_join .u32 32 (by decide) (fun n h0 h1 => by rw [show IntKind.u32.wrap n = n % 4294967296 by simp [IntKind.wrap, IntKind.bits, IntKind.signed]]; omega) 16 _ _ (by omega) (by omega) (by omega) (by omega) (by omega) (by omega)]
        unfold sumI
        rw [← hie, hxy]
      go_wp2
      go_ret
      exact ⟨rfl, HB.out⟩
end Go.Proofs.Ytfjhlcbpogihmaa.Pr
namespace Go.Proofs.Ytfjhlcbpogihmaa.Pr
open Go.RowKit Go.Proofs.YtfjhlcbpogihmaaW.PrintWords Go.Proofs.YtfjhlcbpogihmaaW.PrintLast Go.Proofs.YtfjhlcbpogihmaaW.PrintMore
attribute [local go_sem] max2_int min2_int max_two min_two max_three min_three max_four min_four   -- for this text's walks alone
set_option linter.unusedVariables false
set_option linter.unusedSimpArgs false

/-! ### seal_tail: function 78 -/
def seal_tail.f (a0 : Int) : Option (ByteArray) := some (strOfNums (([(a0 / 16777216) % 256, (a0 / 65536) % 256, (a0 / 256) % 256, (a0) % 256] : List Int)))
set_option maxHeartbeats 8000000 in
set_option maxRecDepth 100000 in
theorem seal_tail.calls (a0 : Int) (r : ByteArray) (w : World) (h : seal_tail.f a0 = some r) :
    Calls Try.prog 78 #[.int .u32 a0] w fun e w' => e = .returned (.string r) ∧ Below w.heap.size w w' := by
  have HB := Aside0.mk (Below.refl w.heap.size w)
  have H : (some (strOfNums (([(a0 / 16777216) % 256, (a0 / 65536) % 256, (a0 / 256) % 256, (a0) % 256] : List Int)))) = some r := h
  clear h
  obtain ⟨y154, hy154⟩ : ∃ y_ : List Int, y_ = (([(a0 / 16777216) % 256, (a0 / 65536) % 256, (a0 / 256) % 256, (a0) % 256] : List Int)) := ⟨_, rfl⟩
  replace H : (some (strOfNums y154)) = some r := by first | (rw [hy154]; with_reducible exact H) | (have H2_ := (Option.bind_some _ _).symm.trans H; rw [hy154]; with_reducible exact H2_) | (have H2_ := (Option.bind_some _ _).symm.trans H; with_reducible exact H2_) | with_reducible exact H | (rw [hy154]; exact H) | exact H
  have Ny154 := Aside0.mk hy154
  clear hy154
  obtain rfl := Option.some.inj H
  go_enter Try.func78, Try.ntmps78
  go_wp2_with (first | ((with_reducible refine gate_dst (N := 14) rfl ?_); refine Kd.R_lit (Kd.int .u8) _ 5 ?hg (N := 14) ?hd (xs := ([(a0 / 16777216) % 256, (a0 / 65536) % 256, (a0 / 256) % 256, (a0) % 256] : List Int)) (inner := [.int .u8 ((a0 / 16777216) % 256), .int .u8 ((a0 / 65536) % 256), .int .u8 ((a0 / 256) % 256), .int .u8 ((a0) % 256)]) (ok := fun _ => True) (okp := fun _ => True) ?hr ?hp (fun _ hk => hk) trivial (Below.refl _ _) (Nat.le_refl _) (by simp) ?_; (case hd => rfl); (case hg => rfl); (case hr => first | (go_simp; done) | (go_simp; rfl)); (case hp => exact (Reps.one (show Kd.M (Kd.int .u8) _ _ _ ((a0 / 16777216) % 256) [.int .u8 ((a0 / 16777216) % 256)] from rfl) (Reps.one (show Kd.M (Kd.int .u8) _ _ _ ((a0 / 65536) % 256) [.int .u8 ((a0 / 65536) % 256)] from rfl) (Reps.one (show Kd.M (Kd.int .u8) _ _ _ ((a0 / 256) % 256) [.int .u8 ((a0 / 256) % 256)] from rfl) (Reps.one (show Kd.M (Kd.int .u8) _ _ _ ((a0) % 256) [.int .u8 ((a0) % 256)] from rfl) (Reps.none _ _)))))); intro v155 w2 ho3 hb hg_ hnew_; clear hg_ hnew_; (first | rw [← Ny154.out] at ho3 | (simp only [Int.reduceToNat] at ho3; rw [← Ny154.out] at ho3)); have n0_ := Aside0.mk (Kd.R_lower ho3 (below_size (by repeat (first | (with_reducible first | exact HB.out | apply below_alloc | apply pw_below_drewN | apply below_drew1) | exact HB.out)))); have n1_ := Aside0.mk (below_step (by repeat (first | (with_reducible first | exact HB.out | apply below_alloc | apply pw_below_drewN | apply below_drew1) | exact HB.out | exact Below.refl _ _)) hb); clear HB; have HO156 := n0_; have HB := n1_; clear n0_ n1_; clear hb ho3; have hcv4 := own_string (P := Try.prog) Try.underlying81 Try.underlying5 Try.underlying9 (Kd.own_of_R HO156.out)))
  go_ret
  exact ⟨by first | rfl | (simp [errW_none, errW_some] <;> rfl) | (simp [*, errW_none, errW_some] <;> rfl), by repeat (first | (with_reducible first | exact HB.out | apply below_alloc | apply pw_below_drewN | apply below_drew1) | exact HB.out)⟩

/-! ### seal_Put: function 47 -/
def seal_Put.f (a0 : ByteArray) : Option (ByteArray × Int) := if (a0.size : Int) > 65536 then (some ((⟨#[]⟩ : ByteArray), 4)) else ((pack_Num.f (a0.size : Int)).bind fun bt157 => (if bt157.1.size + a0.size ≤ 9223372036854775807 then ((seal_Sum.f (bt157.1 ++ a0)).bind fun t159 => ((seal_tail.f t159).bind fun t160 => (if (bt157.1 ++ a0).size + t160.size ≤ 9223372036854775807 then (some ((bt157.1 ++ a0) ++ t160, bt157.2)) else (none)))) else (none)))
set_option maxHeartbeats 8000000 in
set_option maxRecDepth 100000 in
theorem seal_Put.calls (a0 : ByteArray) (r1 : ByteArray) (r2 : Int) (w : World) (h : seal_Put.f a0 = some (r1, r2)) :
    Calls Try.prog 47 #[.string a0] w fun e w' => e = .returned (.tuple #[.string r1, .int .i64 r2]) ∧ Below w.heap.size w w' := by
  have HB := Aside0.mk (Below.refl w.heap.size w)
  have H : (if (a0.size : Int) > 65536 then (some ((⟨#[]⟩ : ByteArray), 4)) else ((pack_Num.f (a0.size : Int)).bind fun bt157 => (if bt157.1.size + a0.size ≤ 9223372036854775807 then ((seal_Sum.f (bt157.1 ++ a0)).bind fun t159 => ((seal_tail.f t159).bind fun t160 => (if (bt157.1 ++ a0).size + t160.size ≤ 9223372036854775807 then (some ((bt157.1 ++ a0) ++ t160, bt157.2)) else (none)))) else (none)))) = some (r1, r2) := h
  clear h
  by_cases c2 : (a0.size : Int) > 65536
  · rw [if_pos c2] at H
    have c2b0 : decide (65536 < (a0.size : Int)) = true := decide_eq_true c2
    have c2b1 : decide (65536 < a0.size) = true := decide_eq_true (by omega)
    clear c2
    simp only [Option.some.injEq, Prod.mk.injEq] at H
    obtain ⟨rfl, rfl⟩ := H
    go_enter Try.func47, Try.ntmps47
    go_wp2
    go_ret2
    exact ⟨by first | rfl | (simp [errW_none, errW_some] <;> rfl) | (simp [*, errW_none, errW_some] <;> rfl), by repeat (first | (with_reducible first | exact HB.out | apply below_alloc | apply pw_below_drewN | apply below_drew1) | exact HB.out)⟩
  · rw [if_neg c2] at H
    have c2b0 : decide (65536 < (a0.size : Int)) = false := decide_eq_false c2
    have c2b1 : decide (65536 < a0.size) = false := decide_eq_false (by omega)
    clear c2
    replace H := Option.bind_eq_some_iff.mp H
    obtain ⟨⟨t157, t158⟩, A30, H⟩ := H
    replace H : (if t157.size + a0.size ≤ 9223372036854775807 then ((seal_Sum.f (t157 ++ a0)).bind fun t159 => ((seal_tail.f t159).bind fun t160 => (if (t157 ++ a0).size + t160.size ≤ 9223372036854775807 then (some ((t157 ++ a0) ++ t160, t158)) else (none)))) else (none)) = some (r1, r2) := H
    have A3 := Aside0.mk A30
    clear A30
    by_cases c4 : t157.size + a0.size ≤ 9223372036854775807
    · rw [if_pos c4] at H
      have c4b0 := eq_true c4
      have c4b1 : decide (t157.size + a0.size ≤ 9223372036854775807) = true := decide_eq_true c4
      try have c4b2 : (9223372036854775807 < t157.size + a0.size) = False := eq_false (Nat.not_lt.2 c4)
      replace H := Option.bind_eq_some_iff.mp H
      obtain ⟨t159, A50, H⟩ := H
      replace H : ((seal_tail.f t159).bind fun t160 => (if (t157 ++ a0).size + t160.size ≤ 9223372036854775807 then (some ((t157 ++ a0) ++ t160, t158)) else (none))) = some (r1, r2) := H
      have A5 := Aside0.mk A50
      clear A50
      replace H := Option.bind_eq_some_iff.mp H
      obtain ⟨t160, A60, H⟩ := H
      replace H : (if (t157 ++ a0).size + t160.size ≤ 9223372036854775807 then (some ((t157 ++ a0) ++ t160, t158)) else (none)) = some (r1, r2) := H
      have A6 := Aside0.mk A60
      clear A60
      by_cases c7 : (t157 ++ a0).size + t160.size ≤ 9223372036854775807
      · rw [if_pos c7] at H
        have c7b0 := eq_true c7
        have c7b1 : decide ((t157 ++ a0).size + t160.size ≤ 9223372036854775807) = true := decide_eq_true c7
        try have c7b2 : (9223372036854775807 < (t157 ++ a0).size + t160.size) = False := eq_false (Nat.not_lt.2 c7)
        have c7x : t157.size + a0.size + t160.size ≤ 9223372036854775807 := by have h_ := of_eq_true c7b0; rw [ByteArray.size_append] at h_; exact h_
        have c7x0 := eq_true c7x
        have c7x1 : decide (t157.size + a0.size + t160.size ≤ 9223372036854775807) = true := decide_eq_true c7x
        have c7x2 : (9223372036854775807 < t157.size + a0.size + t160.size) = False := eq_false (Nat.not_lt.2 c7x)
        clear c7x
        simp only [Option.some.injEq, Prod.mk.injEq] at H
        obtain ⟨rfl, rfl⟩ := H
        go_enter Try.func47, Try.ntmps47
        go_wp2_with (first | ((with_reducible refine gate_callee (f := 58) rfl ?_); refine goesL_ (some 13) rfl rfl Try.func58 (by kernel_rfl) rfl #[.int .u64 (a0.size : Int)] rfl (by (try simp only [List.map_toArray, List.map_cons, List.map_nil]); first | done | rfl | (simp only [List.length_drop, List.length_take]; rfl)) ?_; (with_reducible refine (pack_Num.calls (a0.size : Int) t157 t158 _ A3.out).mono ?_); rintro e w8 ⟨rfl, hb⟩; refine ⟨_, rfl, ?_⟩; have n0_ := Aside0.mk (below_step (by repeat (first | (with_reducible first | exact HB.out | apply below_alloc | apply pw_below_drewN | apply below_drew1) | exact HB.out | exact Below.refl _ _)) hb); clear HB; have HB := n0_; clear n0_; (try clear hb); (try clear hb2); (try clear hk); (try clear hi)) | ((with_reducible refine gate_callee (f := 79) rfl ?_); refine goesL_ (some 22) rfl rfl Try.func79 (by kernel_rfl) rfl #[.string (t157 ++ a0)] rfl (by (try simp only [List.map_toArray, List.map_cons, List.map_nil]); first | done | rfl | (simp only [List.length_drop, List.length_take]; rfl)) ?_; (with_reducible refine (seal_Sum.calls (t157 ++ a0) t159 _ A5.out).mono ?_); rintro e w9 ⟨rfl, hb⟩; refine ⟨_, rfl, ?_⟩; have n0_ := Aside0.mk (below_step (by repeat (first | (with_reducible first | exact HB.out | apply below_alloc | apply pw_below_drewN | apply below_drew1) | exact HB.out | exact Below.refl _ _)) hb); clear HB; have HB := n0_; clear n0_; (try clear hb); (try clear hb2); (try clear hk); (try clear hi)) | ((with_reducible refine gate_callee (f := 78) rfl ?_); refine goesL_ (some 23) rfl rfl Try.func78 (by kernel_rfl) rfl #[.int .u32 t159] rfl (by (try simp only [List.map_toArray, List.map_cons, List.map_nil]); first | done | rfl | (simp only [List.length_drop, List.length_take]; rfl)) ?_; (with_reducible refine (seal_tail.calls t159 t160 _ A6.out).mono ?_); rintro e w10 ⟨rfl, hb⟩; refine ⟨_, rfl, ?_⟩; have n0_ := Aside0.mk (below_step (by repeat (first | (with_reducible first | exact HB.out | apply below_alloc | apply pw_below_drewN | apply below_drew1) | exact HB.out | exact Below.refl _ _)) hb); clear HB; have HB := n0_; clear n0_; (try clear hb); (try clear hb2); (try clear hk); (try clear hi)))
        go_ret2
        exact ⟨by first | rfl | (simp [errW_none, errW_some] <;> rfl) | (simp [*, errW_none, errW_some] <;> rfl), by repeat (first | (with_reducible first | exact HB.out | apply below_alloc | apply pw_below_drewN | apply below_drew1) | exact HB.out)⟩
      · rw [if_neg c7] at H
        exact absurd H (by simp)
    · rw [if_neg c4] at H
      exact absurd H (by simp)

end Go.Proofs.Ytfjhlcbpogihmaa.Pr
set_option linter.unusedVariables false
set_option linter.unusedSimpArgs false
namespace Go.Proofs.Ytfjhlcbpogihmaa.Pr
open Go.RowKit Go.Proofs Go.Proofs.YtfjhlcbpogihmaaW.PrintWords Go.Proofs.YtfjhlcbpogihmaaW.PrintLast Go.Proofs.YtfjhlcbpogihmaaW.PrintMore
open Go.Proofs.Ytfjhlcbpogihmaa.Hnd
theorem bld_size : (Try.prog.info? 94).map (·.size) = some 2 := by kernel_rfl
theorem bld_lies : liesAt Try.prog Try.prog.depth 94 (2 / Try.prog.cellsOf 94) 0 94 1 = true := by kernel_rfl
theorem bld_byte : (Try.prog.info? 5).map (fun i => (i.zero, i.size, i.bytes)) = some (some (.int .u8 0), 1, 1) := by kernel_rfl
theorem bld_cells : Try.prog.cellsOf 5 = 1 := by kernel_rfl
theorem heap_setCell_ne (w : World) (p : Addr) (v : Value) (k : Nat) (h : p.block ≠ k) : (w.setCell p v).heap[k]? = w.heap[k]? := by
  simp only [World.setCell, Array.getElem?_modify]
  rw [if_neg h]
theorem bld_ne : (94 : TypeId) ≠ 5 := by decide
set_option maxHeartbeats 1000000 in
set_option maxRecDepth 100000 in
theorem bcc_used (b : Nat) (w : World) (h0 : w.cell? ⟨b, 0, none⟩ = some (.pointer (some ⟨b, 0, none⟩))) :
    Calls Try.prog 85 #[.pointer (some ⟨b, 0, none⟩)] w fun e w' => e = .returned (.tuple #[]) ∧ w' = w := by
  obtain ⟨j, hj, _⟩ := Option.map_eq_some_iff.1 bld_size
  have u0 := Try.underlying94
  have u1 := Try.underlying92
  go_enter Try.func85, Try.ntmps85
  go_wp2
  rw [Lib.run_neq_ptr_same w _ Try.underlying92 hj]
  go_wp2
  go_end0
  exact ⟨rfl, rfl⟩
set_option maxHeartbeats 1000000 in
set_option maxRecDepth 100000 in
theorem bcc_fresh (b : Nat) (w : World) (h0 : w.cell? ⟨b, 0, none⟩ = some (.pointer none)) (hsh : w.shape? b = some (94, 2)) (hfz : w.frozen? ⟨b, 0, none⟩ = false) :
    Calls Try.prog 85 #[.pointer (some ⟨b, 0, none⟩)] w fun e w' => e = .returned (.tuple #[]) ∧ w' = w.setCell ⟨b, 0, none⟩ (.pointer (some ⟨b, 0, none⟩)) := by
  obtain ⟨j, hj, hjs⟩ := Option.map_eq_some_iff.1 bld_size
  have u0 := Try.underlying94
  have u1 := Try.underlying92
  go_enter Try.func85, Try.ntmps85
  go_wp2
  rw [Lib.run_to_unsafe w ⟨b, 0, none⟩ Try.underlying92 Try.underlying142 hj (by rw [hjs]; decide) hsh (Nat.zero_lt_succ 1)]
  simp only [Result.andThen]
  rw [Oper.upon_value]
  go_wp2
  rw [run_callFunc_extern Try.func95 (by kernel_rfl) (by kernel_rfl) (by kernel_rfl) (e := Extern.AbiNoEscape.same) (by kernel_rfl)]
  rw [Lib.run_noEscape]
  simp only [Result.andThen]
  rw [Oper.upon_value]
  go_wp2
  rw [Lib.run_from_unsafe w ⟨b, 0, none⟩ Try.underlying142 Try.underlying92 hj hsh bld_lies]
  simp only [Result.andThen]
  rw [Oper.upon_value]
  go_wp2
  go_end0
  exact ⟨rfl, rfl⟩
/-- copyCheck: behind it the builder is used; its bytes are as they were. -/
theorem bcc (B b : Nat) (bs : List Value) (w : World) (h : Lib.IsBuilder 94 5 B b bs w) :
    Calls Try.prog 85 #[.pointer (some ⟨b, 0, none⟩)] w fun e w' => e = .returned (.tuple #[]) ∧ (Lib.BuilderAt 94 5 B b (.pointer (some ⟨b, 0, none⟩)) bs w' ∧ Below B w w' ∧ (∀ (k : Nat) (cs : Array Value) (t : TypeId) (fz : Nat × Nat), w.heap[k]? = some (Obj.cells cs t fz) → t ≠ 94 → t ≠ 5 → w'.heap[k]? = some (Obj.cells cs t fz))) := by
  rcases h with h | h
  · refine (bcc_fresh b w h.cell0 h.shape h.frozen0).mono ?_
    rintro e w' ⟨rfl, rfl⟩
    refine ⟨rfl, h.used _, (Below.refl B w).setCell (p := ⟨b, 0, none⟩) h.1 _, fun k cs t fz hk h1 h2 => ?_⟩
    have hne : k ≠ b := by
      rintro rfl
      obtain ⟨_, v, hb, _⟩ := h
      rw [hb] at hk
      injection hk with hk
      injection hk with _ e _
      exact h1 e.symm
    exact (heap_setCell_ne w ⟨b, 0, none⟩ _ k (Ne.symm hne)).trans hk
  · refine (bcc_used b w h.cell0).mono ?_
    rintro e w' ⟨rfl, rfl⟩
    exact ⟨rfl, h, Below.refl B _, fun k cs t fz hk _ _ => hk⟩
set_option maxHeartbeats 2000000 in
set_option maxRecDepth 100000 in
/-- WriteString: the text stands behind what was there. -/
theorem bws (B b : Nat) (bs : List Value) (s : ByteArray) (w : World) (h : Lib.IsBuilder 94 5 B b bs w) (hlen : bs.length + s.size ≤ 140737488355328) (hBw : B ≤ w.heap.size) :
    Calls Try.prog 55 #[.pointer (some ⟨b, 0, none⟩), .string s] w fun e w' => e = .returned (.tuple #[.int .i64 s.size, .nilIface]) ∧ (Lib.BuilderAt 94 5 B b (.pointer (some ⟨b, 0, none⟩)) (bs ++ Lib.strCells s) w' ∧ Below B w w' ∧ (∀ (k : Nat) (cs : Array Value) (t : TypeId) (fz : Nat × Nat), w.heap[k]? = some (Obj.cells cs t fz) → t ≠ 94 → t ≠ 5 → w'.heap[k]? = some (Obj.cells cs t fz))) := by
  obtain ⟨i0, hi, hz⟩ := Option.map_eq_some_iff.1 bld_byte
  obtain ⟨hz0, hz1, hz2⟩ : i0.zero = some (.int .u8 0) ∧ i0.size = 1 ∧ i0.bytes = 1 := by
    simp only [Prod.mk.injEq] at hz
    exact hz
  have HCC := Aside0.mk (bcc B b bs w h)
  clear hz
  go_enter Try.func55, Try.ntmps55
  go_wp2_with (go_at_call 85; refine HCC.out.mono ?_)
  rintro e w1 ⟨rfl, h1, hb1, hkeep⟩
  obtain ⟨hB, v, hbk, hown, hne⟩ := h1
  have c0 : w1.cell? ⟨b, 0, none⟩ = some (.pointer (some ⟨b, 0, none⟩)) := by rw [Lib.cell_of_heap hbk]; rfl
  have c1 : w1.cell? ⟨b, 1, none⟩ = some v := by rw [Lib.cell_of_heap hbk]; rfl
  go_wp2_with (at_builtin; refine Lib.wpList_append_own_string _ rfl _ _ 81 9 rfl B 5 i0 Try.underlying81 Try.underlying9 hi hz0 hz1 hz2 _ _ _ rfl hown s rfl ?c3 ?c4 ?c5 ?_)
  case c3 => unfold maxLen; omega
  case c4 => omega
  case c5 => have := hb1.size; omega
  intro v' w2 hown' hgrow _
  have hlt : b < w1.heap.size := by
    rcases Nat.lt_or_ge b w1.heap.size with h' | h'
    · exact h'
    · simp [Array.getElem?_eq_none h'] at hbk
  have hb2 : w2.heap[b]? = some (.cells #[.pointer (some ⟨b, 0, none⟩), v] 94 (0, 0)) := by
    rw [hgrow.block b hlt (fun e => hne e.symm)]
    exact hbk
  have d0 : w2.cell? ⟨b, 0, none⟩ = some (.pointer (some ⟨b, 0, none⟩)) := by rw [Lib.cell_of_heap hb2]; rfl
  have d1 : w2.cell? ⟨b, 1, none⟩ = some v := by rw [Lib.cell_of_heap hb2]; rfl
  have f1 : w2.frozen? ⟨b, 1, none⟩ = false := Lib.frozen_of_heap hb2 1
  obtain ⟨ao, n', cap, rfl⟩ : ∃ ao n' cap, v' = .slice ao n' cap := by
    rcases hown'.2 with ⟨hv, _⟩ | ⟨g, cap, cur, hv, _⟩
    · exact ⟨_, _, _, hv⟩
    · exact ⟨_, _, _, hv⟩
  go_wp2
  go_ret2
  refine ⟨rfl, ?_, ?_, fun k cs t fz hk h1 h2 => ?_⟩
  rotate_left 2
  · have hk1 := hkeep k cs t fz hk h1 h2
    have hkl : k < w1.heap.size := by
      rcases Nat.lt_or_ge k w1.heap.size with h' | h'
      · exact h'
      · simp [Array.getElem?_eq_none h'] at hk1
    have hkb : b ≠ k := by
      rintro rfl
      rw [hbk] at hk1
      injection hk1 with hk1
      injection hk1 with _ e _
      exact h1 e.symm
    have hkv : some k ≠ v.ownBlock := by
      rcases hown.2 with ⟨rfl, _⟩ | ⟨g, cap', cur, rfl, _, hg, _⟩
      · simp [Value.ownBlock]
      · intro e
        have e : k = g := by simpa [Value.ownBlock] using e
        rw [← e, hk1] at hg
        injection hg with hg
        injection hg with _ e2 _
        exact h2 e2
    exact (heap_setCell_ne w2 ⟨b, 1, none⟩ _ k hkb).trans ((hgrow.block k hkl hkv).trans hk1)
  · exact Lib.BuilderAt.put (T := 94) (e := 5) hB hb2 (bs' := bs ++ Lib.strCells s) (by simpa [Lib.strCells_length] using hown') bld_ne
  · exact (hb1.grown hgrow (by have := hb1.size; omega) (fun k hk => (hown.lt k hk).1)).setCell (p := ⟨b, 1, none⟩) hB _
set_option maxHeartbeats 1000000 in
set_option maxRecDepth 100000 in
theorem bstr_some (B b : Nat) (l : List UInt8) (w : World) (h : Lib.IsBuilder 94 5 B b (Lib.byteCells l) w) (h0 : l ≠ []) :
    Calls Try.prog 56 #[.pointer (some ⟨b, 0, none⟩)] w fun e w' => e = .returned (.string ⟨l.toArray⟩) ∧ Below B w w' := by
  obtain ⟨p, hB, v, hbk, hown, hne⟩ : ∃ p, Lib.BuilderAt 94 5 B b p (Lib.byteCells l) w := by
    rcases h with h | h
    · exact ⟨_, h⟩
    · exact ⟨_, h⟩
  have hl0 : l.length ≠ 0 := by simpa using h0
  rw [Lib.byteCells_length] at hown
  obtain ⟨g, cap, cur, rfl, hbg, hg, hnc, hcm, hcs, htake⟩ : ∃ g cap cur, v = .slice (some ⟨g, 0, none⟩) l.length cap ∧ B ≤ g ∧ w.heap[g]? = some (.cells cur 5 (0, 0)) ∧ l.length ≤ cap ∧ cap ≤ maxLen ∧ cur.size = cap * 1 ∧ cur.toList.take (l.length * 1) = Lib.byteCells l := by
    rcases hown.2 with ⟨_, hz⟩ | ⟨g, cap, cur, hv, r⟩
    · exact absurd hz hl0
    · exact ⟨g, cap, cur, hv, r⟩
  have c1 : w.drew.cell? ⟨b, 1, none⟩ = some (.slice (some ⟨g, 0, none⟩) l.length cap) := by
    have : w.drew.heap[b]? = some (.cells #[p, .slice (some ⟨g, 0, none⟩) l.length cap] 94 (0, 0)) := hbk
    rw [Lib.cell_of_heap this]; rfl
  have hSD : (Builtin.unsafeSliceData_ #[81] 133 #[.slice (some ⟨g, 0, none⟩) l.length cap]).run Try.prog w.drew = .ok (.pointer (some ⟨g, 0, none⟩)) w.drew :=
    Lib.run_unsafeSliceData_row _ _ _ _ _ _ (by omega)
  have hUS : (Builtin.unsafeString_ #[133, 3] 9 #[.pointer (some ⟨g, 0, none⟩), .int .i64 l.length]).run Try.prog w.drew = .ok (.string ⟨l.toArray⟩) (w.drew.freeze ⟨g, 0, none⟩ l.length) := by
    refine Lib.run_unsafeString_row w.drew 133 3 9 5 Try.underlying133 bld_cells g cur.size (by have hg' : w.drew.heap[g]? = some (.cells cur 5 (0, 0)) := hg; simp [World.shape?, hg']) l h0 (by omega) (by unfold maxLen at hcm; omega) ?_
    intro j x hx
    have := hown.cells (g := g) rfl j (.int .u8 x.toNat) (by simp [Lib.byteCells, hx])
    exact this
  have mixed : Try.prog.follows Departure.mixedOrders = true := by kernel_rfl
  go_enter Try.func56, Try.ntmps56
  go_wp2
  go_region_o
  all_goals (go_wp2; go_ret; exact ⟨rfl, Lib.below_freeze (Below.drew (Below.refl B w)) (p := ⟨g, 0, none⟩) hbg _⟩)
theorem us_none (W : World) (q : Option Addr) : (Builtin.unsafeString_ #[133, 3] 9 #[.pointer q, .int .i64 0]).run Try.prog W = .ok (.string .empty) W :=
  Lib.run_unsafeString_none W _ _ _ q
set_option maxHeartbeats 2000000 in
set_option maxRecDepth 100000 in
theorem bstr_nil (B b : Nat) (p : Value) (w : World) (hbk : w.heap[b]? = some (.cells #[p, .slice none 0 0] 94 (0, 0))) :
    Calls Try.prog 56 #[.pointer (some ⟨b, 0, none⟩)] w fun e w' => e = .returned (.string ⟨#[]⟩) ∧ Below B w w' := by
  have hUS := us_none
  have c1 : w.drew.cell? ⟨b, 1, none⟩ = some (.slice none 0 0) := by
    have : w.drew.heap[b]? = some (.cells #[p, .slice none 0 0] 94 (0, 0)) := hbk
    rw [Lib.cell_of_heap this]; rfl
  have hSD : (Builtin.unsafeSliceData_ #[81] 133 #[.slice none 0 0]).run Try.prog w.drew = .ok (.pointer none) w.drew := rfl
  have mixed : Try.prog.follows Departure.mixedOrders = true := by kernel_rfl
  go_enter Try.func56, Try.ntmps56
  go_wp2
  go_region_o
  all_goals (go_wp2; go_ret; exact ⟨rfl, Below.drew (Below.refl B w)⟩)
set_option maxHeartbeats 2000000 in
set_option maxRecDepth 100000 in
theorem bstr_noroom (B b g : Nat) (p : Value) (cur : Array Value) (w : World) (hBw : B ≤ w.heap.size) (hbk : w.heap[b]? = some (.cells #[p, .slice (some ⟨g, 0, none⟩) 0 0] 94 (0, 0))) (hg : w.heap[g]? = some (.cells cur 5 (0, 0))) :
    Calls Try.prog 56 #[.pointer (some ⟨b, 0, none⟩)] w fun e w' => e = .returned (.string ⟨#[]⟩) ∧ Below B w w' := by
  have hUS := us_none
  have hlt : b < w.heap.size := by
    rcases Nat.lt_or_ge b w.heap.size with h' | h'
    · exact h'
    · simp [Array.getElem?_eq_none h'] at hbk
  have c1 : w.drew.cell? ⟨b, 1, none⟩ = some (.slice (some ⟨g, 0, none⟩) 0 0) := by
    have : w.drew.heap[b]? = some (.cells #[p, .slice (some ⟨g, 0, none⟩) 0 0] 94 (0, 0)) := hbk
    rw [Lib.cell_of_heap this]; rfl
  have hSD : (Builtin.unsafeSliceData_ #[81] 133 #[.slice (some ⟨g, 0, none⟩) 0 0]).run Try.prog w.drew = .ok (.pointer (some ⟨w.drew.heap.size, 0, none⟩)) (w.drew.alloc (.view ⟨g, 0, none⟩ 5)) :=
    Lib.run_unsafeSliceData_zero w.drew _ _ 5 Try.underlying133 ⟨g, 0, none⟩ 0 (5, cur.size) (by have hg' : w.drew.heap[g]? = some (.cells cur 5 (0, 0)) := hg; simp [World.shape?, hg'])
  have c2 : (w.drew.alloc (.view ⟨g, 0, none⟩ 5)).cell? ⟨b, 1, none⟩ = some (.slice (some ⟨g, 0, none⟩) 0 0) := by
    have : (w.drew.alloc (.view ⟨g, 0, none⟩ 5)).heap[b]? = _ := (Lib.alloc_old w.drew _ b hlt).trans hbk
    rw [Lib.cell_of_heap this]; rfl
  have c3 : (w.alloc (.view ⟨g, 0, none⟩ 5)).drew.cell? ⟨b, 1, none⟩ = some (.slice (some ⟨g, 0, none⟩) 0 0) := c2
  have c0 : w.cell? ⟨b, 1, none⟩ = some (.slice (some ⟨g, 0, none⟩) 0 0) := c1
  have mixed : Try.prog.follows Departure.mixedOrders = true := by kernel_rfl
  go_enter Try.func56, Try.ntmps56
  go_wp2
  go_region_o
  all_goals (go_wp2; go_ret; exact ⟨rfl, (Below.drew (Below.refl B w)).alloc hBw _⟩)
set_option maxHeartbeats 2000000 in
set_option maxRecDepth 100000 in
theorem bstr_room (B b g cap : Nat) (p : Value) (w : World) (hc0 : cap ≠ 0) (hbk : w.heap[b]? = some (.cells #[p, .slice (some ⟨g, 0, none⟩) 0 cap] 94 (0, 0))) :
    Calls Try.prog 56 #[.pointer (some ⟨b, 0, none⟩)] w fun e w' => e = .returned (.string ⟨#[]⟩) ∧ Below B w w' := by
  have hUS := us_none
  have c1 : w.drew.cell? ⟨b, 1, none⟩ = some (.slice (some ⟨g, 0, none⟩) 0 cap) := by
    have : w.drew.heap[b]? = some (.cells #[p, .slice (some ⟨g, 0, none⟩) 0 cap] 94 (0, 0)) := hbk
    rw [Lib.cell_of_heap this]; rfl
  have hSD : (Builtin.unsafeSliceData_ #[81] 133 #[.slice (some ⟨g, 0, none⟩) 0 cap]).run Try.prog w.drew = .ok (.pointer (some ⟨g, 0, none⟩)) w.drew :=
    Lib.run_unsafeSliceData_row _ _ _ _ _ _ hc0
  clear hc0
  have mixed : Try.prog.follows Departure.mixedOrders = true := by kernel_rfl
  go_enter Try.func56, Try.ntmps56
  go_wp2
  go_region_o
  all_goals (go_wp2; go_ret; exact ⟨rfl, Below.drew (Below.refl B w)⟩)
/-- String: what was written. -/
theorem bstr (B b : Nat) (l : List UInt8) (w : World) (h : Lib.IsBuilder 94 5 B b (Lib.byteCells l) w) (hBw : B ≤ w.heap.size) :
    Calls Try.prog 56 #[.pointer (some ⟨b, 0, none⟩)] w fun e w' => e = .returned (.string ⟨l.toArray⟩) ∧ Below B w w' := by
  cases l with
  | cons x r => exact bstr_some B b (x :: r) w h (by simp)
  | nil =>
    obtain ⟨p, hB, v, hbk, hown, hne⟩ : ∃ p, Lib.BuilderAt 94 5 B b p [] w := by
      rcases h with h | h
      · exact ⟨_, h⟩
      · exact ⟨_, h⟩
    rcases hown.2 with ⟨rfl, _⟩ | ⟨g, cap, cur, rfl, hbg, hg, _, _, _, _⟩
    · exact bstr_nil B b p w hbk
    · by_cases hc0 : cap = 0
      · subst hc0
        exact bstr_noroom B b g p cur w hBw hbk hg
      · exact bstr_room B b g cap p w hc0 hbk
end Go.Proofs.Ytfjhlcbpogihmaa.Pr
namespace Go.Proofs.Ytfjhlcbpogihmaa.Pr
open Go.RowKit Go.Proofs.YtfjhlcbpogihmaaW.PrintWords Go.Proofs.YtfjhlcbpogihmaaW.PrintLast Go.Proofs.YtfjhlcbpogihmaaW.PrintMore
open Go.Proofs.Ytfjhlcbpogihmaa.Hnd
attribute [local go_sem] setCell_drewN_ alloc_drewN_
set_option linter.unusedVariables false
set_option linter.unusedSimpArgs false
/-- The bytes of numbers, behind those that are there. -/
def numsF : List Int → List UInt8 → Option (ByteArray × Int)
  | [], acc => some (⟨acc.toArray⟩, 0)
  | v :: r, acc => (pack_Num.f v).bind fun b => if b.2 = 0 then (if acc.length + b.1.size ≤ 140737488355328 then numsF r (acc ++ b.1.data.toList) else none) else some ((⟨#[]⟩ : ByteArray), b.2)
def pack_Nums.f (l0 : List Int) : Option (ByteArray × Int) := if l0.length ≤ 1048576 then numsF ((l0.length : Int) :: l0) [] else none
theorem infoU8 : (Try.prog.info? 25).map (fun i => (i.zero, i.size, i.bytes)) = some (some (.int .u64 0), 1, 8) := by kernel_rfl
theorem R_keepT {w w' : World} {base : Nat} {ok : Nat → Prop} {v : Value} {xs : List Int} (h : Kd.R (Kd.int .u64) 25 w base ok v xs)
    (hk : ∀ (k : Nat) (cs : Array Value) (t : TypeId) (fz : Nat × Nat), w.heap[k]? = some (Obj.cells cs t fz) → t ≠ 94 → t ≠ 5 → w'.heap[k]? = some (Obj.cells cs t fz)) : Kd.R (Kd.int .u64) 25 w' base ok v xs := by
  refine Kd.R_mono (Kd.R_move (Kd.R_bound h) (fun k hk' => ?_)) (fun _ h => h.1)
  obtain ⟨_, _, _, q, hq, cs, hc⟩ := hk'
  have hq : q = 25 := by
    rcases List.mem_cons.1 hq with h | h
    · exact h
    · exact absurd h (by simp [Kd.int, Kd.scalar])
  subst hq
  rw [hc]
  exact hk k cs _ _ hc (by decide) (by decide)
theorem strCells_of (acc : List UInt8) (s : ByteArray) : Lib.byteCells acc ++ Lib.strCells s = Lib.byteCells (acc ++ s.data.toList) := by
  rw [Lib.strCells_eq]
  simp [Lib.byteCells]
theorem bld_below {B b : Nat} {bs : List Value} {w w' : World} (h : Lib.IsBuilder 94 5 B b bs w) (hb : Below w.heap.size w w') : Lib.IsBuilder 94 5 B b bs w' := by
  have one : ∀ p, Lib.BuilderAt 94 5 B b p bs w → Lib.BuilderAt 94 5 B b p bs w' := by
    rintro p ⟨h1, v, h2, h3, h4⟩
    refine ⟨h1, v, blk_below h2 hb, ⟨h3.1, ?_⟩, h4⟩
    rcases h3.2 with h | ⟨g, cap, cur, e, hg1, hg2, r⟩
    · exact .inl h
    · exact .inr ⟨g, cap, cur, e, hg1, blk_below hg2 hb, r⟩
  exact h.imp (one _) (one _)
theorem below_trans' {w w1 w2 : World} (h : Below w.heap.size w w1) (h2 : Below w.heap.size w1 w2) : Below w.heap.size w w2 := h.trans h2
set_option maxHeartbeats 4000000 in
set_option maxRecDepth 100000 in
theorem pack_Nums.calls (A0 : Option Addr) (c0 : Nat) (l0 : List Int) (r1 : ByteArray) (r2 : Int) (w : World) (hr0 : Kd.C (Kd.int .u64) w A0 l0.length l0) (hc0 : l0.length ≤ c0) (h : pack_Nums.f l0 = some (r1, r2)) :
    Calls Try.prog 46 #[.slice A0 l0.length c0] w fun e w' => e = .returned (.tuple #[.string r1, .int .i64 r2]) ∧ Below w.heap.size w w' := by
  unfold pack_Nums.f at h
  by_cases hl : l0.length ≤ 1048576
  rotate_left
  · rw [if_neg hl] at h; cases h
  rw [if_pos hl] at h
  have HR := Aside0.mk hr0
  have HL := Aside0.mk hl
  have HF := Aside0.mk h
  have hwl : IntKind.u64.wrap (l0.length : Int) = (l0.length : Int) := by simp [IntKind.wrap, IntKind.signed, IntKind.bits]; omega
  obtain ⟨L, hL⟩ : ∃ L, [(l0.length : Int)] ++ l0 = L := ⟨_, rfl⟩
  have HF := Aside0.mk (show numsF L [] = some (r1, r2) by rw [← hL]; exact HF.out)
  have HLL := Aside0.mk (show L.length ≤ 1048577 by rw [← hL, List.length_append, List.length_singleton]; omega)
  have HE := Aside0.mk hL
  have BK0 := Aside0.mk (blk_new w (.cells #[.pointer none, .slice none 0 0] 94))
  have HR1 := Aside0.mk (Kd.C_alloc HR.out (.cells #[.pointer none, .slice none 0 0] 94))
  have HB0 := Aside0.mk (below_alloc (Below.refl w.heap.size w) (.cells #[.pointer none, .slice none 0 0] 94))
  clear hr0 hc0 hl h hL HR
  go_enter Try.func46, Try.ntmps46
  go_wp2_with (first
    | ((with_reducible refine gate_dst (N := 12) rfl ?_); refine Kd.R_lit (Kd.int .u64) (w0 := w) w.heap.size 25 ?hg (N := 12) ?hd (xs := ([(l0.length : Int)] : List Int)) (inner := [.int .u64 (l0.length : Int)]) (ok := fun k => k ≠ w.heap.size) (okp := fun k => k ≠ w.heap.size) ?hr ?hp (fun _ hk => hk) ?hf HB0.out HB0.out.size (by simp) ?_; (case hd => rfl); (case hg => rfl); (case hr => first | (go_simp; done) | (go_simp; rfl)); (case hp => exact (Reps.one (show Kd.M (Kd.int .u64) _ _ _ (l0.length : Int) [.int .u64 (l0.length : Int)] from rfl) (Reps.none _ _))); (case hf => rw [World.size_alloc]; omega); intro v1 w1 ho hb hg_ hnew_; have HO := Aside0.mk ho; have HB1 := Aside0.mk hb; have HR2 := Aside0.mk (Kd.C_below HR1.out (Below.grown (Below.refl _ _) hg_ (Nat.le_refl _) (fun k hk => by cases hk))); have BK1 := Aside0.mk ((hg_.block w.heap.size (by rw [World.size_alloc]; omega) (by simp)).trans BK0.out); have HN1 := Aside0.mk hnew_; clear ho hb hg_ hnew_)
    | ((with_reducible refine gate_builtin (b := .append) (xs := #[.tmp 12, .tmp 13]) rfl ?_); (try (refine gate_guard (by rfl) ?_; dsimp only)); at_builtin; refine Kd.R_append_rows (Kd.int .u64) (w0 := w) w.heap.size rfl (.tmp 12) (.tmp 13) 79 25 (.int .u64 0) 8 rfl Try.underlying79 infoU8 rfl (by decide) (by omega) _ ([(l0.length : Int)] : List Int) l0 _ _ _ (fun k => k ≠ w.heap.size) (fun _ => False) rfl rfl ?aO ?aR (fun _ _ h => h) (fun _ h => h.elim) ?aF ?aB ?aS ?aL ?_; (case aR => exact HR2.out); (case aF => exact fun k hk => by have := blk_lt BK1.out; omega); (case aB => exact HB1.out); (case aO => exact HO.out); (case aS => exact HB1.out.size); (case aL => have := HL.out; simp only [List.length_singleton]; omega); intro v2 w2 ho hb hg hat; rw [HE.out] at ho; obtain ⟨A2, c2, rfl⟩ := Kd.R_slice ho; have HO2 := Aside0.mk ho; have HB2 := Aside0.mk hb; have BK2 := Aside0.mk ((hg.block w.heap.size (blk_lt BK1.out) (show some w.heap.size ≠ v1.ownBlock from by obtain ⟨b', hb1, hb2⟩ := HN1.out; rw [hb1]; rw [World.size_alloc] at hb2; intro e; injection e with e; omega)).trans BK1.out); clear ho hb hg hat))
  have HBD := Aside0.mk (show Lib.IsBuilder 94 5 w.heap.size w.heap.size (Lib.byteCells []) w2 from .inl ⟨Nat.le_refl _, _, BK2.out, World.ownsRow_nil _ _ _ _, by simp [Value.ownBlock]⟩)
  clear HO HB1 HR2 BK1 HN1 BK0 HR1 HB0 BK2 HE
  go_loopg [6, 7, 8, 16] L.length (fun g v6 v7 v8 v16 wr => ∃ (i : Nat) (acc : List UInt8), v16 = .int .i64 (i : Int) ∧ Aside0 (i ≤ L.length ∧ L.length - i ≤ g) ∧ Aside0 (numsF (L.drop i) acc = some (r1, r2)) ∧ Aside0 (Kd.R (Kd.int .u64) 25 wr w.heap.size (fun k => k ≠ w.heap.size) (.slice A2 L.length c2) L) ∧ Aside0 (Lib.IsBuilder 94 5 w.heap.size w.heap.size (Lib.byteCells acc) wr) ∧ Aside0 (Below w.heap.size w wr))
  case atStart => exact ⟨0, [], rfl, ⟨by omega⟩, HF, HO2, HBD, HB2⟩
  case round =>
    clear HF HO2 HBD HB2
    obtain ⟨i, acc, rfl, HI, HT, HO, HD, HB⟩ := hrel
    by_cases hlt : (i : Int) < (L.length : Int)
    · have hltb := decide_eq_true hlt
      obtain ⟨ad, hA, e0⟩ := Kd.at_int (Kd.R_reads' HO.out).2.2 (i : Int) (by omega) hlt
      subst hA
      simp only [Int.toNat_natCast] at e0
      have hT := HT.out
      rw [List.drop_eq_getElem_cons (show i < L.length by omega)] at hT
      have hx : rd L (i : Int) = L[i] := by
        unfold rd
        simp [List.getD_eq_getElem?_getD, show i < L.length by omega]
      rw [← hx] at hT
      obtain ⟨x, hxx⟩ : ∃ x, rd L (i : Int) = x := ⟨_, rfl⟩
      rw [hxx] at hT e0
      unfold numsF at hT
      replace hT := Option.bind_eq_some_iff.mp hT
      obtain ⟨⟨s, er⟩, hN, hT⟩ := hT
      have HN := Aside0.mk hN
      clear hN hx hxx HT
      dsimp only at hT
      by_cases her : er = 0
      · rw [if_pos her] at hT
        by_cases hsz : acc.length + s.size ≤ 140737488355328
        rotate_left
        · rw [if_neg hsz] at hT; cases hT
        rw [if_pos hsz] at hT
        have HT := Aside0.mk hT
        have hneb : (er != 0) = false := by rw [her]; rfl
        have HS := Aside0.mk hsz
        clear hT hsz
        subst her
        go_wp2_with fail
        refine (pack_Num.calls x s 0 _ HN.out).mono ?_
        rintro e w1 ⟨rfl, hb⟩
        have HB1 := Aside0.mk (below_call HB.out hb)
        have HO1 := Aside0.mk (Kd.R_below HO.out hb)
        have HD1 := Aside0.mk (bld_below HD.out hb)
        clear hb e0
        go_wp2_with fail
        refine (bws w.heap.size w.heap.size (Lib.byteCells acc) s w1 HD1.out (by rw [Lib.byteCells_length]; exact HS.out) HB1.out.size).mono ?_
        rintro e w2 ⟨rfl, hd, hb, hk⟩
        have HB2 := Aside0.mk (below_trans' HB1.out hb)
        have HO2 := Aside0.mk (R_keepT HO1.out hk)
        have HD2 := Aside0.mk (show Lib.IsBuilder 94 5 w.heap.size w.heap.size (Lib.byteCells (acc ++ s.data.toList)) w2 from .inr (by rw [← strCells_of]; exact hd))
        clear hd hb hk
        go_wp2_with fail
        go_roundg (gk - 1)
        case measure => have := HI.out; omega
        case rel => exact ⟨i + 1, acc ++ s.data.toList, by rw [show wrap64 ((i : Int) + 1) = ((i + 1 : Nat) : Int) from by have := HLL.out; simp [wrap64]; omega], ⟨by have := HI.out; omega⟩, HT, HO2, HD2, HB2⟩
      · rw [if_neg her] at hT
        simp only [Option.some.injEq, Prod.mk.injEq] at hT
        obtain ⟨rfl, rfl⟩ := hT
        have hneb : (er != 0) = true := bne_iff_ne.mpr her
        go_wp2_with fail
        refine (pack_Num.calls x s er _ HN.out).mono ?_
        rintro e w1 ⟨rfl, hb⟩
        have HB1 := Aside0.mk (below_call HB.out hb)
        clear hb e0
        go_wp2_with fail
        go_ret2
        exact ⟨rfl, HB1.out⟩
    · have hltb := decide_eq_false hlt
      have hie : i = L.length := by have := HI.out; omega
      have hT := HT.out
      rw [hie, List.drop_length] at hT
      unfold numsF at hT
      simp only [Option.some.injEq, Prod.mk.injEq] at hT
      obtain ⟨rfl, rfl⟩ := hT
      clear HT hie
      go_wp2_with fail
      refine (bstr w.heap.size w.heap.size acc _ HD.out HB.out.size).mono ?_
      rintro e w1 ⟨rfl, hb⟩
      have HB1 := Aside0.mk (below_trans' HB.out hb)
      clear hb
      go_wp2_with fail
      go_ret2
      exact ⟨rfl, HB1.out⟩
end Go.Proofs.Ytfjhlcbpogihmaa.Pr
namespace Go.Proofs.Ytfjhlcbpogihmaa.Pr
open Go.RowKit Go.Proofs.YtfjhlcbpogihmaaW.PrintWords Go.Proofs.YtfjhlcbpogihmaaW.PrintLast Go.Proofs.YtfjhlcbpogihmaaW.PrintMore
attribute [local go_sem] max2_int min2_int max_two min_two max_three min_three max_four min_four   -- for this text's walks alone
set_option linter.unusedVariables false
set_option linter.unusedSimpArgs false

/-! ### ferruleref01_Size: function 87 -/
def ferruleref01_Size.f (a0 : Int) : Option (Int) := if a0 < 64 then (some 1) else (if a0 < 16384 then (some 2) else (if a0 < 1073741824 then (some 4) else (if a0 < 4611686018427387904 then (some 8) else (some 0))))
set_option maxHeartbeats 8000000 in
set_option maxRecDepth 100000 in
theorem ferruleref01_Size.calls (a0 : Int) (r : Int) (w : World) (h : ferruleref01_Size.f a0 = some r) :
    Calls Try.prog 87 #[.int .u64 a0] w fun e w' => e = .returned (.int .i64 r) ∧ Drawn0 w w' := by
  have H : (if a0 < 64 then (some 1) else (if a0 < 16384 then (some 2) else (if a0 < 1073741824 then (some 4) else (if a0 < 4611686018427387904 then (some 8) else (some 0))))) = some r := h
  clear h
  by_cases c2 : a0 < 64
  · rw [if_pos c2] at H
    have c2b0 : decide (a0 < 64) = true := decide_eq_true c2
    clear c2
    obtain rfl := Option.some.inj H
    go_enter Try.func87, Try.ntmps87
    go_wp2
    go_ret
    exact ⟨by first | rfl | (simp; done) | (simp [*]; done), by repeat (first | exact Drawn0.refl _ | apply Drawn0.step)⟩
  · rw [if_neg c2] at H
    have c2b0 : decide (a0 < 64) = false := decide_eq_false c2
    clear c2
    by_cases c3 : a0 < 16384
    · rw [if_pos c3] at H
      have c3b0 : decide (a0 < 16384) = true := decide_eq_true c3
      clear c3
      obtain rfl := Option.some.inj H
      go_enter Try.func87, Try.ntmps87
      go_wp2
      go_ret
      exact ⟨by first | rfl | (simp; done) | (simp [*]; done), by repeat (first | exact Drawn0.refl _ | apply Drawn0.step)⟩
    · rw [if_neg c3] at H
      have c3b0 : decide (a0 < 16384) = false := decide_eq_false c3
      clear c3
      by_cases c4 : a0 < 1073741824
      · rw [if_pos c4] at H
        have c4b0 : decide (a0 < 1073741824) = true := decide_eq_true c4
        clear c4
        obtain rfl := Option.some.inj H
        go_enter Try.func87, Try.ntmps87
        go_wp2
        go_ret
        exact ⟨by first | rfl | (simp; done) | (simp [*]; done), by repeat (first | exact Drawn0.refl _ | apply Drawn0.step)⟩
      · rw [if_neg c4] at H
        have c4b0 : decide (a0 < 1073741824) = false := decide_eq_false c4
        clear c4
        by_cases c5 : a0 < 4611686018427387904
        · rw [if_pos c5] at H
          have c5b0 : decide (a0 < 4611686018427387904) = true := decide_eq_true c5
          clear c5
          obtain rfl := Option.some.inj H
          go_enter Try.func87, Try.ntmps87
          go_wp2
          go_ret
          exact ⟨by first | rfl | (simp; done) | (simp [*]; done), by repeat (first | exact Drawn0.refl _ | apply Drawn0.step)⟩
        · rw [if_neg c5] at H
          have c5b0 : decide (a0 < 4611686018427387904) = false := decide_eq_false c5
          clear c5
          obtain rfl := Option.some.inj H
          go_enter Try.func87, Try.ntmps87
          go_wp2
          go_ret
          exact ⟨by first | rfl | (simp; done) | (simp [*]; done), by repeat (first | exact Drawn0.refl _ | apply Drawn0.step)⟩

end Go.Proofs.Ytfjhlcbpogihmaa.Pr
namespace Go.Proofs.Ytfjhlcbpogihmaa.Pr
open Go.RowKit Go.Proofs.YtfjhlcbpogihmaaW.PrintWords Go.Proofs.YtfjhlcbpogihmaaW.PrintLast Go.Proofs.YtfjhlcbpogihmaaW.PrintMore
attribute [local go_sem] max2_int min2_int max_two min_two max_three min_three max_four min_four   -- for this text's walks alone
set_option linter.unusedVariables false
set_option linter.unusedSimpArgs false

/-! ### ferruleref02_Sum: function 89 -/
def ferruleref02_Sum.l0 : Nat → ByteArray → Int → Int → Int → Option (Int)
  | 0, _, _, _, _ => none
  | k + 1, x0, x3, x4, x5 => if x5 < (x0.size : Int) then (if 0 ≤ x5 then (ferruleref02_Sum.l0 k x0 (((x3 + ((bt x0 x5) % 4294967296)) % 4294967296) % 65521) (((x4 + (((x3 + ((bt x0 x5) % 4294967296)) % 4294967296) % 65521)) % 4294967296) % 65521) (wrap64 (x5 + 1))) else (none)) else (some ((((x4 * 65536) % 4294967296) + x3) % 4294967296))
def ferruleref02_Sum.f (k : Nat) (a0 : ByteArray) : Option (Int) := ferruleref02_Sum.l0 k a0 1 0 0
theorem ferruleref02_Sum.mono_l : ∀ k, (∀ y0 y1 y2 y3, LeO (ferruleref02_Sum.l0 k y0 y1 y2 y3) (ferruleref02_Sum.l0 (k + 1) y0 y1 y2 y3))
  | 0 => fun _ _ _ _ r h => by simp [ferruleref02_Sum.l0] at h
  | k + 1 => by
    have ih0 := ferruleref02_Sum.mono_l k
    · intro y0 y1 y2 y3
      unfold ferruleref02_Sum.l0
      repeat' first
      | (with_reducible exact ih0 _ _ _ _)
      | (with_reducible exact LeO.refl _)
      | (with_reducible exact LeO.none _)
      | (with_reducible refine LeO.ite ?_ ?_)
      | (with_reducible refine LeO.bind ?_ (fun _ => ?_))
      | exact ih0 _ _ _ _
      | exact LeO.none _
      | refine LeO.ite ?_ ?_
      | refine LeO.bind ?_ (fun _ => ?_)
theorem ferruleref02_Sum.mono : ∀ a0 k, LeO (ferruleref02_Sum.f k a0) (ferruleref02_Sum.f (k + 1) a0) := by
  intro a0 k
  have ih0 := ferruleref02_Sum.mono_l k
  unfold ferruleref02_Sum.f
  repeat' first
      | (with_reducible exact ih0 _ _ _ _)
      | (with_reducible exact LeO.refl _)
      | (with_reducible exact LeO.none _)
      | (with_reducible refine LeO.ite ?_ ?_)
      | (with_reducible refine LeO.bind ?_ (fun _ => ?_))
      | exact ih0 _ _ _ _
      | exact LeO.none _
      | refine LeO.ite ?_ ?_
      | refine LeO.bind ?_ (fun _ => ?_)
set_option maxHeartbeats 8000000 in
set_option maxRecDepth 100000 in
theorem ferruleref02_Sum.calls (k : Nat) (a0 : ByteArray) (r : Int) (w : World) (h : ferruleref02_Sum.f k a0 = some r) :
    Calls Try.prog 89 #[.string a0] w fun e w' => e = .returned (.int .u32 r) ∧ Drawn0 w w' := by
  have H : (ferruleref02_Sum.l0 k a0 1 0 0) = some r := h
  clear h
  have H' := Aside0.mk H
  clear H
  go_enter Try.func89, Try.ntmps89
  go_wp2
  go_loopg [3, 4, 5] k (fun kq v3 v4 v5 w' => ∃ (x3_1 : Int) (x4_1 : Int) (x5_1 : Int), v3 = .int .u32 x3_1 ∧ v4 = .int .u32 x4_1 ∧ v5 = .int .i64 x5_1 ∧ Aside0 (ferruleref02_Sum.l0 kq a0 x3_1 x4_1 x5_1 = some r) ∧ Aside0 (kq ≤ k) ∧ Drawn0 w w')
  case atStart => exact ⟨(1), (0), (0), (by first | rfl | (simp; done) | (simp [*]; done)), (by first | rfl | (simp; done) | (simp [*]; done)), (by first | rfl | (simp; done) | (simp [*]; done)), H', ⟨Nat.le_refl _⟩, by repeat (first | exact Drawn0.refl _ | apply Drawn0.step)⟩
  case round =>
    clear H'
    obtain ⟨x3_1, x4_1, x5_1, rfl, rfl, rfl, HA, HK1, ⟨m1, rfl⟩⟩ := hrel
    cases gk with
    | zero => exact absurd HA.out (by simp [ferruleref02_Sum.l0])
    | succ k1 =>
      have H := HA.out
      clear HA
      simp only [ferruleref02_Sum.l0] at H
      by_cases c2 : x5_1 < (a0.size : Int)
      · rw [if_pos c2] at H
        have c2b0 : decide (x5_1 < (a0.size : Int)) = true := decide_eq_true c2
        clear c2
        by_cases c3 : 0 ≤ x5_1
        · rw [if_pos c3] at H
          have c3b0 : decide (0 ≤ x5_1) = true := decide_eq_true c3
          clear c3
          have H' := Aside0.mk H
          clear H
          have p4 : 0 ≤ (x5_1 : Int) := of_decide_eq_true (by first | (with_reducible assumption) | assumption)
          have q4 : x5_1 < (a0.size : Int) := of_decide_eq_true (by first | (with_reducible assumption) | assumption)
          have hx4 := bt_at a0 x5_1
          replace p4 := eq_true p4
          replace q4 := eq_true q4
          go_wp2
          go_roundg k1
          case measure => have := HK1.out; omega
          case rel => exact ⟨(((x3_1 + ((bt a0 x5_1) % 4294967296)) % 4294967296) % 65521), (((x4_1 + (((x3_1 + ((bt a0 x5_1) % 4294967296)) % 4294967296) % 65521)) % 4294967296) % 65521), (wrap64 (x5_1 + 1)), (by first | rfl | (simp; done) | (simp [*]; done)), (by first | rfl | (simp; done) | (simp [*]; done)), (by first | rfl | (simp; done) | (simp [*]; done)), H', ⟨by have := HK1.out; omega⟩, by repeat (first | exact Drawn0.refl _ | apply Drawn0.step)⟩
        · rw [if_neg c3] at H
          exact absurd H (by simp)
      · rw [if_neg c2] at H
        have c2b0 : decide (x5_1 < (a0.size : Int)) = false := decide_eq_false c2
        clear c2
        obtain rfl := Option.some.inj H
        go_wp2
        go_ret
        exact ⟨by first | rfl | (simp; done) | (simp [*]; done), by repeat (first | exact Drawn0.refl _ | apply Drawn0.step)⟩

end Go.Proofs.Ytfjhlcbpogihmaa.Pr
namespace Go.Proofs.Ytfjhlcbpogihmaa.Pr
open Go.RowKit Go.Proofs.Ytfjhlcbpogihmaa.Opn Go.Proofs.YtfjhlcbpogihmaaW.PrintWords Go.Proofs.YtfjhlcbpogihmaaW.PrintLast Go.Proofs.YtfjhlcbpogihmaaW.PrintMore
set_option maxRecDepth 100000
def q39 (x : S39) : Prop := ((Lit.int .i64 x.f0).wf = true) ∧ ((Lit.int .u64 x.f1).wf = true) ∧ ((Lit.int .u64 x.f2).wf = true) ∧ ((Lit.int .u64 x.f3).wf = true) ∧ (x.f4.size ≤ 140737488351232)
theorem o39 : Opn Try.prog 39 k39 q39 := opn_struct (fun x : S39 => (x.f0, x.f1, x.f2, x.f3, x.f4)) (fun y => (⟨y.1, y.2.1, y.2.2.1, y.2.2.2.1, y.2.2.2.2⟩ : S39)) (fun _ => rfl) Try.underlying39 rfl (tot := 5) (by kernel_rfl) (opnF_cons (opn_int Try.underlying3) rfl (off' := 1) (by kernel_rfl) (opnF_cons (opn_int Try.underlying25) rfl (off' := 2) (by kernel_rfl) (opnF_cons (opn_int Try.underlying25) rfl (off' := 3) (by kernel_rfl) (opnF_cons (opn_int Try.underlying25) rfl (off' := 4) (by kernel_rfl) (opnF_last (opn_string Try.underlying9) rfl (by kernel_rfl))))))
def q75 (x : S75) : Prop := ((Lit.int .u64 x.f0).wf = true) ∧ (x.f1.size ≤ 140737488351232)
theorem o75 : Opn Try.prog 75 k75 q75 := opn_struct (fun x : S75 => (x.f0, x.f1)) (fun y => (⟨y.1, y.2⟩ : S75)) (fun _ => rfl) Try.underlying75 rfl (tot := 2) (by kernel_rfl) (opnF_cons (opn_int Try.underlying25) rfl (off' := 1) (by kernel_rfl) (opnF_last (opn_string Try.underlying9) rfl (by kernel_rfl)))
def q28 (x : S28) : Prop := ((Lit.int .u64 x.f0).wf = true) ∧ ((Lit.int .u64 x.f1).wf = true) ∧ (x.f2.size ≤ 140737488351232) ∧ (x.f3.length ≤ maxLen ∧ x.f3.length * 24 ≤ 140737488351232 ∧ ∀ y, y ∈ x.f3 → q75 y)
theorem o28 : Opn Try.prog 28 k28 q28 := opn_struct (fun x : S28 => (x.f0, x.f1, x.f2, x.f3)) (fun y => (⟨y.1, y.2.1, y.2.2.1, y.2.2.2⟩ : S28)) (fun _ => rfl) Try.underlying28 rfl (tot := 4) (by kernel_rfl) (opnF_cons (opn_int Try.underlying25) rfl (off' := 1) (by kernel_rfl) (opnF_cons (opn_int Try.underlying25) rfl (off' := 2) (by kernel_rfl) (opnF_cons (opn_string Try.underlying9) rfl (off' := 3) (by kernel_rfl) (opnF_last (opn_slice Try.underlying26 (by kernel_rfl) (B := 24) (by kernel_rfl) o75) rfl (by kernel_rfl)))))
def q30 (x : S30) : Prop := ((Lit.int .u64 x.f0).wf = true) ∧ ((Lit.int .u64 x.f1).wf = true) ∧ (q28 x.f2)
theorem o30 : Opn Try.prog 30 k30 q30 := opn_struct (fun x : S30 => (x.f0, x.f1, x.f2)) (fun y => (⟨y.1, y.2.1, y.2.2⟩ : S30)) (fun _ => rfl) Try.underlying30 rfl (tot := 6) (by kernel_rfl) (opnF_cons (opn_int Try.underlying25) rfl (off' := 1) (by kernel_rfl) (opnF_cons (opn_int Try.underlying25) rfl (off' := 2) (by kernel_rfl) (opnF_last o28 rfl (by kernel_rfl))))
def q57 (x : S57) : Prop := ((Lit.int .i64 x.f0).wf = true) ∧ ((Lit.int .u64 x.f1).wf = true) ∧ ((Lit.int .u64 x.f2).wf = true) ∧ ((Lit.int .u64 x.f3).wf = true) ∧ ((Lit.int .u64 x.f4).wf = true) ∧ ((Lit.int .u64 x.f5).wf = true) ∧ ((Lit.int .u64 x.f6).wf = true) ∧ (True) ∧ (x.f8.length ≤ maxLen ∧ x.f8.length * 24 ≤ 140737488351232 ∧ ∀ y, y ∈ x.f8 → q75 y) ∧ (x.f9.size ≤ 140737488351232)
theorem o57 : Opn Try.prog 57 k57 q57 := opn_struct (fun x : S57 => (x.f0, x.f1, x.f2, x.f3, x.f4, x.f5, x.f6, x.f7, x.f8, x.f9)) (fun y => (⟨y.1, y.2.1, y.2.2.1, y.2.2.2.1, y.2.2.2.2.1, y.2.2.2.2.2.1, y.2.2.2.2.2.2.1, y.2.2.2.2.2.2.2.1, y.2.2.2.2.2.2.2.2.1, y.2.2.2.2.2.2.2.2.2⟩ : S57)) (fun _ => rfl) Try.underlying57 rfl (tot := 10) (by kernel_rfl) (opnF_cons (opn_int Try.underlying3) rfl (off' := 1) (by kernel_rfl) (opnF_cons (opn_int Try.underlying25) rfl (off' := 2) (by kernel_rfl) (opnF_cons (opn_int Try.underlying25) rfl (off' := 3) (by kernel_rfl) (opnF_cons (opn_int Try.underlying25) rfl (off' := 4) (by kernel_rfl) (opnF_cons (opn_int Try.underlying25) rfl (off' := 5) (by kernel_rfl) (opnF_cons (opn_int Try.underlying25) rfl (off' := 6) (by kernel_rfl) (opnF_cons (opn_int Try.underlying25) rfl (off' := 7) (by kernel_rfl) (opnF_cons (opn_bool Try.underlying4) rfl (off' := 8) (by kernel_rfl) (opnF_cons (opn_slice Try.underlying26 (by kernel_rfl) (B := 24) (by kernel_rfl) o75) rfl (off' := 9) (by kernel_rfl) (opnF_last (opn_string Try.underlying9) rfl (by kernel_rfl)))))))))))
end Go.Proofs.Ytfjhlcbpogihmaa.Pr
namespace Go.Proofs.Ytfjhlcbpogihmaa.Pr
open Go.RowKit Go.Proofs.YtfjhlcbpogihmaaW.PrintWords Go.Proofs.YtfjhlcbpogihmaaW.PrintLast Go.Proofs.YtfjhlcbpogihmaaW.PrintMore
attribute [local go_sem] max2_int min2_int max_two min_two max_three min_three max_four min_four   -- for this text's walks alone
set_option linter.unusedVariables false
set_option linter.unusedSimpArgs false

theorem eqA75 (d : Nat) (w : World) (x0 y0 : Int) (x1 y1 : ByteArray) :
    (Op.equalIn (d + 2) 75 (.agg #[.int .u64 x0, .string x1]) (.agg #[.int .u64 y0, .string y1])).run Try.prog w = .ok (x0 == y0 && (x1.toList == y1.toList)) w := by
  refine eqA_of Try.underlying75 (by kernel_rfl) ?_
  refine eqf_cons (by rfl) (by go_simp; rfl) (by go_simp; rfl) (by go_simp) ?_
  exact eqf_last (by rfl) (by go_simp; rfl) (by go_simp; rfl) (by go_simp)
end Go.Proofs.Ytfjhlcbpogihmaa.Pr
namespace Go.Proofs.Ytfjhlcbpogihmaa.Pr
open Go.RowKit Go.Proofs.YtfjhlcbpogihmaaW.PrintWords Go.Proofs.YtfjhlcbpogihmaaW.PrintLast Go.Proofs.YtfjhlcbpogihmaaW.PrintMore

theorem inU64_wf {a : Int} (h : (Lit.int .u64 a).wf = true) : inU64 a := by
  simp [Lit.wf, IntKind.min, IntKind.max, IntKind.signed, IntKind.bits] at h
  unfold inU64
  omega
theorem u8_join64 {x t : Int} (h0 : 0 ≤ x) (h1 : x < 64) (ht : t = 0 ∨ t = 64 ∨ t = 128 ∨ t = 192) : Go.bits .or .u8 x t = x + t := by
  obtain ⟨n, rfl⟩ := Int.eq_ofNat_of_zero_le h0
  have hn : n < 64 := by omega
  rcases ht with rfl | rfl | rfl | rfl
  · exact (by decide +kernel : ∀ n : Fin 64, Go.bits .or .u8 (n.val : Int) 0 = (n.val : Int) + 0) ⟨n, hn⟩
  · exact (by decide +kernel : ∀ n : Fin 64, Go.bits .or .u8 (n.val : Int) 64 = (n.val : Int) + 64) ⟨n, hn⟩
  · exact (by decide +kernel : ∀ n : Fin 64, Go.bits .or .u8 (n.val : Int) 128 = (n.val : Int) + 128) ⟨n, hn⟩
  · exact (by decide +kernel : ∀ n : Fin 64, Go.bits .or .u8 (n.val : Int) 192 = (n.val : Int) + 192) ⟨n, hn⟩
theorem num1_eq {v : Int} (h0 : 0 ≤ v) (h1 : v < 64) : num1 v = [v] := by
  unfold num1
  rw [u8_join64 h0 h1 (by omega), Int.add_zero]
theorem num2_eq {v : Int} (h0 : 64 ≤ v) (h1 : v < 16384) : num2 v = [v / 256 + 64, v % 256] := by
  unfold num2
  rw [u8_join64 (by omega) (by omega) (by omega)]
theorem num4_eq {v : Int} (h0 : 16384 ≤ v) (h1 : v < 1073741824) : num4 v = [v / 16777216 + 128, v / 65536 % 256, v / 256 % 256, v % 256] := by
  unfold num4
  rw [u8_join64 (by omega) (by omega) (by omega)]
theorem num8_eq {v : Int} (h0 : 1073741824 ≤ v) (h1 : v < 4611686018427387904) : num8 v = [v / 72057594037927936 + 192, v / 281474976710656 % 256, v / 1099511627776 % 256, v / 4294967296 % 256, v / 16777216 % 256, v / 65536 % 256, v / 256 % 256, v % 256] := by
  unfold num8
  rw [u8_join64 (by omega) (by omega) (by omega)]
theorem numL_length {v : Int} : ((numL v).length : Int) = sizeI v := by
  unfold numL sizeI
  split
  · rfl
  · split
    · rfl
    · split
      · rfl
      · split <;> rfl
theorem size_num (v : Int) : ((strOfNums (numL v)).size : Int) = sizeI v := by rw [strOfNums_size]; exact numL_length
theorem num_f {v : Int} (h : inU64 v) : pack_Num.f v = some (strOfNums (numL v), numE v) := by unfold pack_Num.f; rw [if_pos h]
theorem size_f {v : Int} (h : inU64 v) : pack_Size.f v = some (sizeI v) := by unfold pack_Size.f; rw [if_pos h]
theorem sizeI_cases (v : Int) : (v < 64 ∧ sizeI v = 1) ∨ (64 ≤ v ∧ v < 16384 ∧ sizeI v = 2) ∨ (16384 ≤ v ∧ v < 1073741824 ∧ sizeI v = 4) ∨ (1073741824 ≤ v ∧ v < 4611686018427387904 ∧ sizeI v = 8) ∨ (4611686018427387904 ≤ v ∧ sizeI v = 0) := by
  unfold sizeI
  split
  · omega
  · split
    · omega
    · split
      · omega
      · split <;> omega
theorem strOfNums_append (a b : List Int) : strOfNums (a ++ b) = strOfNums a ++ strOfNums b := by
  apply ByteArray.ext
  rw [ByteArray.data_append]
  simp [strOfNums]
theorem ba_assoc (a b c : ByteArray) : a ++ b ++ c = a ++ (b ++ c) := by
  apply ByteArray.ext
  simp only [ByteArray.data_append, Array.append_assoc]
theorem strOfNums_nil : strOfNums [] = (⟨#[]⟩ : ByteArray) := rfl
theorem ba_nil (a : ByteArray) : a ++ (⟨#[]⟩ : ByteArray) = a := by
  apply ByteArray.ext
  simp [ByteArray.data_append]
theorem nil_ba (a : ByteArray) : (⟨#[]⟩ : ByteArray) ++ a = a := by
  apply ByteArray.ext
  simp [ByteArray.data_append]
/-- The d low bytes of a number, the greatest first. -/
def lowB : Nat → Int → List Int
  | 0, _ => []
  | d + 1, x => lowB d (x / 256) ++ [x % 256]
theorem lowB_length : ∀ (d : Nat) (x : Int), (lowB d x).length = d
  | 0, _ => rfl
  | d + 1, x => by simp [lowB, lowB_length d]
theorem numL_1 {v : Int} (h0 : 0 ≤ v) (h1 : v < 64) : numL v = lowB 1 v := by
  unfold numL
  rw [if_pos h1, num1_eq h0 h1]
  simp only [lowB, List.nil_append]
  congr 1
  omega
theorem numL_2 {v : Int} (h0 : 64 ≤ v) (h1 : v < 16384) : numL v = lowB 2 (v + 16384) := by
  unfold numL
  rw [if_neg (by omega), if_pos h1, num2_eq h0 h1]
  simp only [lowB, List.nil_append, List.cons_append, List.cons.injEq, and_true]
  omega
theorem numL_4 {v : Int} (h0 : 16384 ≤ v) (h1 : v < 1073741824) : numL v = lowB 4 (v + 2147483648) := by
  unfold numL
  rw [if_neg (by omega), if_neg (by omega), if_pos h1, num4_eq h0 h1]
  simp only [lowB, List.nil_append, List.cons_append, List.cons.injEq, and_true]
  omega
theorem numL_8 {v : Int} (h0 : 1073741824 ≤ v) (h1 : v < 4611686018427387904) : numL v = lowB 8 (v + 13835058055282163712) := by
  unfold numL
  rw [if_neg (by omega), if_neg (by omega), if_neg (by omega), if_pos h1, num8_eq h0 h1]
  simp only [lowB, List.nil_append, List.cons_append, List.cons.injEq, and_true]
  refine ⟨?_, ?_, ?_, ?_, ?_, ?_, ?_, ?_⟩ <;> omega
theorem numL_0 {v : Int} (h0 : 4611686018427387904 ≤ v) : numL v = [] := by
  unfold numL
  rw [if_neg (by omega), if_neg (by omega), if_neg (by omega), if_neg (by omega)]
end Go.Proofs.Ytfjhlcbpogihmaa.Pr
namespace Go.Proofs.Ytfjhlcbpogihmaa.Pr
open Go.RowKit Go.Proofs.YtfjhlcbpogihmaaW.PrintWords Go.Proofs.YtfjhlcbpogihmaaW.PrintLast Go.Proofs.YtfjhlcbpogihmaaW.PrintMore
attribute [local go_sem] max2_int min2_int max_two min_two max_three min_three max_four min_four   -- for this text's walks alone
set_option linter.unusedVariables false
set_option linter.unusedSimpArgs false

/-! ### ferruleref01_TakeNum: function 75 -/
mutual
def ferruleref01_TakeNum.l0 : Nat → ByteArray → Int → Int → Option (Int × ByteArray × Int)
  | 0, _, _, _ => none
  | k + 1, x0, x5, x6 => if 0 < (x0.size : Int) then (if x6 < ((Int.tdiv (bt x0 0) 64) % 256) then (ferruleref01_TakeNum.l0 k x0 (wrap64 (x5 * 2)) ((x6 + 1) % 256)) else (if (x0.size : Int) < x5 then (some (0, (⟨#[]⟩ : ByteArray), 2)) else (ferruleref01_TakeNum.l1 k x0 x5 (IntKind.u64.wrap (Int.tmod (bt x0 0) 64)) 1))) else (none)
def ferruleref01_TakeNum.l1 : Nat → ByteArray → Int → Int → Int → Option (Int × ByteArray × Int)
  | 0, _, _, _, _ => none
  | k + 1, x0, x5, x7, x8 => if x8 < x5 then (if 0 ≤ x8 then (if x8 < (x0.size : Int) then (ferruleref01_TakeNum.l1 k x0 x5 (IntKind.u64.wrap ((IntKind.u64.wrap (x7 * 256)) + (IntKind.u64.wrap (bt x0 x8)))) (wrap64 (x8 + 1))) else (none)) else (none)) else ((ferruleref01_Size.f x7).bind fun t486 => (if t486 = x5 then (if 0 ≤ x5 then (if x5 ≤ (x0.size : Int) then (some (x7, x0.extract (x5 : Int).toNat x0.size, 0)) else (none)) else (none)) else (some (0, (⟨#[]⟩ : ByteArray), 3))))
end
def ferruleref01_TakeNum.f (k : Nat) (a0 : ByteArray) : Option (Int × ByteArray × Int) := if (a0.size : Int) = 0 then (some (0, (⟨#[]⟩ : ByteArray), 2)) else (ferruleref01_TakeNum.l0 k a0 1 0)
theorem ferruleref01_TakeNum.mono_l : ∀ k, (∀ y0 y1 y2, LeO (ferruleref01_TakeNum.l0 k y0 y1 y2) (ferruleref01_TakeNum.l0 (k + 1) y0 y1 y2)) ∧ (∀ y0 y1 y2 y3, LeO (ferruleref01_TakeNum.l1 k y0 y1 y2 y3) (ferruleref01_TakeNum.l1 (k + 1) y0 y1 y2 y3))
  | 0 => ⟨fun _ _ _ r h => by simp [ferruleref01_TakeNum.l0] at h, fun _ _ _ _ r h => by simp [ferruleref01_TakeNum.l1] at h⟩
  | k + 1 => by
    obtain ⟨ih0, ih1⟩ := ferruleref01_TakeNum.mono_l k
    refine ⟨?_, ?_⟩
    · intro y0 y1 y2
      unfold ferruleref01_TakeNum.l0
      repeat' first
      | (with_reducible exact ih0 _ _ _)
      | (with_reducible exact ih1 _ _ _ _)
      | (with_reducible exact LeO.refl _)
      | (with_reducible exact LeO.none _)
      | (with_reducible refine LeO.ite ?_ ?_)
      | (with_reducible refine LeO.bind ?_ (fun _ => ?_))
      | exact ih0 _ _ _
      | exact ih1 _ _ _ _
      | exact LeO.none _
      | refine LeO.ite ?_ ?_
      | refine LeO.bind ?_ (fun _ => ?_)
    · intro y0 y1 y2 y3
      unfold ferruleref01_TakeNum.l1
      repeat' first
      | (with_reducible exact ih0 _ _ _)
      | (with_reducible exact ih1 _ _ _ _)
      | (with_reducible exact LeO.refl _)
      | (with_reducible exact LeO.none _)
      | (with_reducible refine LeO.ite ?_ ?_)
      | (with_reducible refine LeO.bind ?_ (fun _ => ?_))
      | exact ih0 _ _ _
      | exact ih1 _ _ _ _
      | exact LeO.none _
      | refine LeO.ite ?_ ?_
      | refine LeO.bind ?_ (fun _ => ?_)
theorem ferruleref01_TakeNum.mono : ∀ a0 k, LeO (ferruleref01_TakeNum.f k a0) (ferruleref01_TakeNum.f (k + 1) a0) := by
  intro a0 k
  obtain ⟨ih0, ih1⟩ := ferruleref01_TakeNum.mono_l k
  unfold ferruleref01_TakeNum.f
  repeat' first
      | (with_reducible exact ih0 _ _ _)
      | (with_reducible exact ih1 _ _ _ _)
      | (with_reducible exact LeO.refl _)
      | (with_reducible exact LeO.none _)
      | (with_reducible refine LeO.ite ?_ ?_)
      | (with_reducible refine LeO.bind ?_ (fun _ => ?_))
      | exact ih0 _ _ _
      | exact ih1 _ _ _ _
      | exact LeO.none _
      | refine LeO.ite ?_ ?_
      | refine LeO.bind ?_ (fun _ => ?_)
set_option maxHeartbeats 8000000 in
set_option maxRecDepth 100000 in
theorem ferruleref01_TakeNum.calls (k : Nat) (a0 : ByteArray) (r1 : Int) (r2 : ByteArray) (r3 : Int) (w : World) (h : ferruleref01_TakeNum.f k a0 = some (r1, r2, r3)) :
    Calls Try.prog 75 #[.string a0] w fun e w' => e = .returned (.tuple #[.int .u64 r1, .string r2, .int .i64 r3]) ∧ Drawn0 w w' := by
  have H : (if (a0.size : Int) = 0 then (some (0, (⟨#[]⟩ : ByteArray), 2)) else (ferruleref01_TakeNum.l0 k a0 1 0)) = some (r1, r2, r3) := h
  clear h
  by_cases c2 : (a0.size : Int) = 0
  · rw [if_pos c2] at H
    have c2b0 : ((a0.size : Int) == 0) = true := beq_iff_eq.mpr c2
    have c2b1 : ((a0.size : Int) != 0) = false := bne_eq_false_iff_eq.mpr c2
    clear c2
    simp only [Option.some.injEq, Prod.mk.injEq] at H
    obtain ⟨rfl, rfl, rfl⟩ := H
    go_enter Try.func75, Try.ntmps75
    go_wp2
    repeat (go_quiet (fail); try go_wp2)
    go_ret3
    exact ⟨by first | rfl | (simp; done) | (simp [*]; done), by repeat (first | exact Drawn0.refl _ | apply Drawn0.step)⟩
  · rw [if_neg c2] at H
    have c2b0 : ((a0.size : Int) == 0) = false := beq_eq_false_iff_ne.mpr c2
    have c2b1 : ((a0.size : Int) != 0) = true := bne_iff_ne.mpr c2
    have H' := Aside0.mk H
    clear H
    go_enter Try.func75, Try.ntmps75
    go_wp2
    repeat (go_quiet (fail); try go_wp2)
    go_loopg [5, 6] k (fun kq v5 v6 w' => ∃ (x5_1 : Int) (x6_1 : Int), v5 = .int .i64 x5_1 ∧ v6 = .int .u8 x6_1 ∧ Aside0 (ferruleref01_TakeNum.l0 kq a0 x5_1 x6_1 = some (r1, r2, r3)) ∧ Aside0 (kq ≤ k) ∧ Drawn0 w w')
    case atStart => exact ⟨(1), (0), (by first | rfl | (simp; done) | (simp [*]; done)), (by first | rfl | (simp; done) | (simp [*]; done)), H', ⟨Nat.le_refl _⟩, by repeat (first | exact Drawn0.refl _ | apply Drawn0.step)⟩
    case round =>
      clear H'
      try clear c2
      try clear c2b0
      try clear c2b1
      try clear p2
      obtain ⟨x5_1, x6_1, rfl, rfl, HA, HK1, ⟨m1, rfl⟩⟩ := hrel
      cases gk with
      | zero => exact absurd HA.out (by simp [ferruleref01_TakeNum.l0])
      | succ k1 =>
        have H := HA.out
        clear HA
        simp only [ferruleref01_TakeNum.l0] at H
        by_cases c3 : 0 < (a0.size : Int)
        · rw [if_pos c3] at H
          have c3b0 : decide (0 < (a0.size : Int)) = true := decide_eq_true c3
          have c3b1 : decide (0 < a0.size) = true := decide_eq_true (by omega)
          clear c3
          by_cases c5 : x6_1 < ((Int.tdiv (bt a0 0) 64) % 256)
          · rw [if_pos c5] at H
            have c5b0 : decide (x6_1 < ((Int.tdiv (bt a0 0) 64) % 256)) = true := decide_eq_true c5
            clear c5
            have H' := Aside0.mk H
            clear H
            have p4 : 0 ≤ (0 : Int) := (by omega)
            have q4 : 0 < a0.size := (by have : (0 : Int) < (a0.size : Int) := of_decide_eq_true (by first | (with_reducible assumption) | assumption); omega)
            have hx4 : ∀ h : 0 < a0.size, ((a0[0]'h).toNat : Int) = bt a0 0 := bt_at a0 0
            clear p4
            have qi4 : (0 < (a0.size : Int)) = True := eq_true (of_decide_eq_true (by first | (with_reducible assumption) | assumption))
            replace q4 := eq_true q4
            go_wp2
            repeat (go_quiet (fail); try go_wp2)
            go_roundg k1
            case measure => have := HK1.out; omega
            case rel => exact ⟨(wrap64 (x5_1 * 2)), ((x6_1 + 1) % 256), (by first | rfl | (simp; done) | (simp [*]; done)), (by first | rfl | (simp; done) | (simp [*]; done)), H', ⟨by have := HK1.out; omega⟩, by repeat (first | exact Drawn0.refl _ | apply Drawn0.step)⟩
          · rw [if_neg c5] at H
            have c5b0 : decide (x6_1 < ((Int.tdiv (bt a0 0) 64) % 256)) = false := decide_eq_false c5
            clear c5
            by_cases c6 : (a0.size : Int) < x5_1
            · rw [if_pos c6] at H
              have c6b0 : decide ((a0.size : Int) < x5_1) = true := decide_eq_true c6
              clear c6
              simp only [Option.some.injEq, Prod.mk.injEq] at H
              obtain ⟨rfl, rfl, rfl⟩ := H
              have p4 : 0 ≤ (0 : Int) := (by omega)
              have q4 : 0 < a0.size := (by have : (0 : Int) < (a0.size : Int) := of_decide_eq_true (by first | (with_reducible assumption) | assumption); omega)
              have hx4 : ∀ h : 0 < a0.size, ((a0[0]'h).toNat : Int) = bt a0 0 := bt_at a0 0
              clear p4
              have qi4 : (0 < (a0.size : Int)) = True := eq_true (of_decide_eq_true (by first | (with_reducible assumption) | assumption))
              replace q4 := eq_true q4
              go_wp2
              repeat (go_quiet (fail); try go_wp2)
              go_ret3
              exact ⟨by first | rfl | (simp; done) | (simp [*]; done), by repeat (first | exact Drawn0.refl _ | apply Drawn0.step)⟩
            · rw [if_neg c6] at H
              have c6b0 : decide ((a0.size : Int) < x5_1) = false := decide_eq_false c6
              clear c6
              have H' := Aside0.mk H
              clear H
              have p4 : 0 ≤ (0 : Int) := (by omega)
              have q4 : 0 < a0.size := (by have : (0 : Int) < (a0.size : Int) := of_decide_eq_true (by first | (with_reducible assumption) | assumption); omega)
              have hx4 : ∀ h : 0 < a0.size, ((a0[0]'h).toNat : Int) = bt a0 0 := bt_at a0 0
              clear p4
              have qi4 : (0 < (a0.size : Int)) = True := eq_true (of_decide_eq_true (by first | (with_reducible assumption) | assumption))
              replace q4 := eq_true q4
              have p7 : 0 ≤ (0 : Int) := (by omega)
              have q7 : 0 < a0.size := (by have : (0 : Int) < (a0.size : Int) := of_decide_eq_true (by first | (with_reducible assumption) | assumption); omega)
              have hx7 : ∀ h : 0 < a0.size, ((a0[0]'h).toNat : Int) = bt a0 0 := bt_at a0 0
              clear p7
              have qi7 : (0 < (a0.size : Int)) = True := eq_true (of_decide_eq_true (by first | (with_reducible assumption) | assumption))
              replace q7 := eq_true q7
              go_wp2
              repeat (go_quiet (fail); try go_wp2)
              go_loopg [7, 8] k1 (fun kq v7 v8 w' => ∃ (x7_2 : Int) (x8_2 : Int), v7 = .int .u64 x7_2 ∧ v8 = .int .i64 x8_2 ∧ Aside0 (ferruleref01_TakeNum.l1 kq a0 x5_1 x7_2 x8_2 = some (r1, r2, r3)) ∧ Aside0 (kq ≤ k1) ∧ Drawn0 w w')
              case atStart => exact ⟨(IntKind.u64.wrap (Int.tmod (bt a0 0) 64)), (1), (by first | rfl | (simp; done) | (simp [*]; done)), (by first | rfl | (simp; done) | (simp [*]; done)), H', ⟨Nat.le_refl _⟩, by repeat (first | exact Drawn0.refl _ | apply Drawn0.step)⟩
              case round =>
                clear H'
                try clear c2
                try clear c2b0
                try clear c2b1
                try clear p2
                try clear c3
                try clear c3b0
                try clear c3b1
                try clear p4
                try clear q4
                try clear hx4
                try clear qi4
                try clear c5
                try clear c5b0
                try clear c6
                try clear c6b0
                try clear p6
                try clear c7
                try clear p7
                try clear q7
                try clear hx7
                try clear qi7
                try clear p2
                try clear p4
                try clear p7
                try clear q4
                try clear q7
                obtain ⟨x7_2, x8_2, rfl, rfl, HA, HK2, ⟨m2, rfl⟩⟩ := hrel
                cases gk with
                | zero => exact absurd HA.out (by simp [ferruleref01_TakeNum.l1])
                | succ k2 =>
                  have H := HA.out
                  clear HA
                  simp only [ferruleref01_TakeNum.l1] at H
                  by_cases c8 : x8_2 < x5_1
                  · rw [if_pos c8] at H
                    have c8b0 : decide (x8_2 < x5_1) = true := decide_eq_true c8
                    clear c8
                    by_cases c9 : 0 ≤ x8_2
                    · rw [if_pos c9] at H
                      have c9b0 : decide (0 ≤ x8_2) = true := decide_eq_true c9
                      clear c9
                      by_cases c10 : x8_2 < (a0.size : Int)
                      · rw [if_pos c10] at H
                        have c10b0 : decide (x8_2 < (a0.size : Int)) = true := decide_eq_true c10
                        clear c10
                        have H' := Aside0.mk H
                        clear H
                        have p11 : 0 ≤ (x8_2 : Int) := of_decide_eq_true (by first | (with_reducible assumption) | assumption)
                        have q11 : x8_2 < (a0.size : Int) := of_decide_eq_true (by first | (with_reducible assumption) | assumption)
                        have hx11 := bt_at a0 x8_2
                        replace p11 := eq_true p11
                        replace q11 := eq_true q11
                        go_wp2
                        repeat (go_quiet (fail); try go_wp2)
                        go_roundg k2
                        case measure => have := HK1.out; have := HK2.out; omega
                        case rel => exact ⟨(IntKind.u64.wrap ((IntKind.u64.wrap (x7_2 * 256)) + (IntKind.u64.wrap (bt a0 x8_2)))), (wrap64 (x8_2 + 1)), (by first | rfl | (simp; done) | (simp [*]; done)), (by first | rfl | (simp; done) | (simp [*]; done)), H', ⟨by have := HK1.out; have := HK2.out; omega⟩, by repeat (first | exact Drawn0.refl _ | apply Drawn0.step)⟩
                      · rw [if_neg c10] at H
                        exact absurd H (by simp)
                    · rw [if_neg c9] at H
                      exact absurd H (by simp)
                  · rw [if_neg c8] at H
                    have c8b0 : decide (x8_2 < x5_1) = false := decide_eq_false c8
                    clear c8
                    replace H := Option.bind_eq_some_iff.mp H
                    obtain ⟨t486, A120, H⟩ := H
                    replace H : (if t486 = x5_1 then (if 0 ≤ x5_1 then (if x5_1 ≤ (a0.size : Int) then (some (x7_2, a0.extract (x5_1 : Int).toNat a0.size, 0)) else (none)) else (none)) else (some (0, (⟨#[]⟩ : ByteArray), 3))) = some (r1, r2, r3) := H
                    have A12 := Aside0.mk A120
                    clear A120
                    by_cases c13 : t486 = x5_1
                    · rw [if_pos c13] at H
                      have c13b0 : (t486 == x5_1) = true := beq_iff_eq.mpr c13
                      have c13b1 : (t486 != x5_1) = false := bne_eq_false_iff_eq.mpr c13
                      clear c13
                      by_cases c14 : 0 ≤ x5_1
                      · rw [if_pos c14] at H
                        have c14b0 := eq_true c14
                        have c14b1 : decide (0 ≤ x5_1) = true := decide_eq_true c14
                        clear c14
                        by_cases c15 : x5_1 ≤ (a0.size : Int)
                        · rw [if_pos c15] at H
                          have c15b0 := eq_true c15
                          have c15b1 : decide (x5_1 ≤ (a0.size : Int)) = true := decide_eq_true c15
                          clear c15
                          simp only [Option.some.injEq, Prod.mk.injEq] at H
                          obtain ⟨rfl, rfl, rfl⟩ := H
                          go_wp2_with (first | (go_at_call 87; (with_reducible refine (ferruleref01_Size.calls x7_2 t486 _ A12.out).mono ?_); rintro e w' ⟨rfl, ⟨nd, rfl⟩⟩; (try first | exact ⟨rfl, _, World.drewN_drewN _ _ _⟩ | exact ⟨rfl, _, Eq.trans (World.drewN_drewN _ _ _) (congrArg (World.drewN _) (Nat.add_assoc _ _ _))⟩)))
                          repeat (go_quiet (first | (go_at_call 87; (with_reducible refine (ferruleref01_Size.calls x7_2 t486 _ A12.out).mono ?_); rintro e w' ⟨rfl, ⟨nd, rfl⟩⟩; (try first | exact ⟨rfl, _, World.drewN_drewN _ _ _⟩ | exact ⟨rfl, _, Eq.trans (World.drewN_drewN _ _ _) (congrArg (World.drewN _) (Nat.add_assoc _ _ _))⟩))); try go_wp2_with (first | (go_at_call 87; (with_reducible refine (ferruleref01_Size.calls x7_2 t486 _ A12.out).mono ?_); rintro e w' ⟨rfl, ⟨nd, rfl⟩⟩; (try first | exact ⟨rfl, _, World.drewN_drewN _ _ _⟩ | exact ⟨rfl, _, Eq.trans (World.drewN_drewN _ _ _) (congrArg (World.drewN _) (Nat.add_assoc _ _ _))⟩))))
                          go_ret3
                          exact ⟨by first | rfl | (simp; done) | (simp [*]; done), by repeat (first | exact Drawn0.refl _ | apply Drawn0.step)⟩
                        · rw [if_neg c15] at H
                          exact absurd H (by simp)
                      · rw [if_neg c14] at H
                        exact absurd H (by simp)
                    · rw [if_neg c13] at H
                      have c13b0 : (t486 == x5_1) = false := beq_eq_false_iff_ne.mpr c13
                      have c13b1 : (t486 != x5_1) = true := bne_iff_ne.mpr c13
                      simp only [Option.some.injEq, Prod.mk.injEq] at H
                      obtain ⟨rfl, rfl, rfl⟩ := H
                      go_wp2_with (first | (go_at_call 87; (with_reducible refine (ferruleref01_Size.calls x7_2 t486 _ A12.out).mono ?_); rintro e w' ⟨rfl, ⟨nd, rfl⟩⟩; (try first | exact ⟨rfl, _, World.drewN_drewN _ _ _⟩ | exact ⟨rfl, _, Eq.trans (World.drewN_drewN _ _ _) (congrArg (World.drewN _) (Nat.add_assoc _ _ _))⟩)))
                      repeat (go_quiet (first | (go_at_call 87; (with_reducible refine (ferruleref01_Size.calls x7_2 t486 _ A12.out).mono ?_); rintro e w' ⟨rfl, ⟨nd, rfl⟩⟩; (try first | exact ⟨rfl, _, World.drewN_drewN _ _ _⟩ | exact ⟨rfl, _, Eq.trans (World.drewN_drewN _ _ _) (congrArg (World.drewN _) (Nat.add_assoc _ _ _))⟩))); try go_wp2_with (first | (go_at_call 87; (with_reducible refine (ferruleref01_Size.calls x7_2 t486 _ A12.out).mono ?_); rintro e w' ⟨rfl, ⟨nd, rfl⟩⟩; (try first | exact ⟨rfl, _, World.drewN_drewN _ _ _⟩ | exact ⟨rfl, _, Eq.trans (World.drewN_drewN _ _ _) (congrArg (World.drewN _) (Nat.add_assoc _ _ _))⟩))))
                      go_ret3
                      exact ⟨by first | rfl | (simp; done) | (simp [*]; done), by repeat (first | exact Drawn0.refl _ | apply Drawn0.step)⟩
        · rw [if_neg c3] at H
          exact absurd H (by simp)

end Go.Proofs.Ytfjhlcbpogihmaa.Pr
namespace Go.Proofs.Ytfjhlcbpogihmaa.Pr
open Go.RowKit Go.Proofs.YtfjhlcbpogihmaaW.PrintWords Go.Proofs.YtfjhlcbpogihmaaW.PrintLast Go.Proofs.YtfjhlcbpogihmaaW.PrintMore
attribute [local go_sem] max2_int min2_int max_two min_two max_three min_three max_four min_four   -- for this text's walks alone
set_option linter.unusedVariables false
set_option linter.unusedSimpArgs false

/-! ### pack_TakeNum: function 92 -/
def pack_TakeNum.l0 : Nat → ByteArray → Int → Int → Int → Option (Int × ByteArray × Int)
  | 0, _, _, _, _ => none
  | k + 1, x0, x5, x6, x7 => if x7 < x5 then (if 0 ≤ x7 then (if x7 < (x0.size : Int) then (pack_TakeNum.l0 k x0 x5 (Go.bits .or .u64 (IntKind.u64.wrap (x6 * 256)) (IntKind.u64.wrap (bt x0 x7))) (wrap64 (x7 + 1))) else (none)) else (none)) else ((pack_Size.f x6).bind fun t191 => (if t191 = x5 then (if 0 ≤ x5 then (if x5 ≤ (x0.size : Int) then (some (x6, x0.extract (x5 : Int).toNat x0.size, 0)) else (none)) else (none)) else (some (0, (⟨#[]⟩ : ByteArray), 3))))
def pack_TakeNum.f (k : Nat) (a0 : ByteArray) : Option (Int × ByteArray × Int) := if a0.toList = ([] : List UInt8) then (some (0, (⟨#[]⟩ : ByteArray), 2)) else (if 0 < (a0.size : Int) then (if 0 ≤ ((bt a0 0) / 64) then (if (a0.size : Int) < (shl .i64 1 ((bt a0 0) / 64)) then (some (0, (⟨#[]⟩ : ByteArray), 2)) else (pack_TakeNum.l0 k a0 (shl .i64 1 ((bt a0 0) / 64)) (IntKind.u64.wrap (Go.bits .and .u8 (bt a0 0) 63)) 1)) else (none)) else (none))
theorem pack_TakeNum.mono_l : ∀ k, (∀ y0 y1 y2 y3, LeO (pack_TakeNum.l0 k y0 y1 y2 y3) (pack_TakeNum.l0 (k + 1) y0 y1 y2 y3))
  | 0 => fun _ _ _ _ r h => by simp [pack_TakeNum.l0] at h
  | k + 1 => by
    have ih0 := pack_TakeNum.mono_l k
    · intro y0 y1 y2 y3
      unfold pack_TakeNum.l0
      repeat' first
      | (with_reducible exact ih0 _ _ _ _)
      | (with_reducible exact LeO.refl _)
      | (with_reducible exact LeO.none _)
      | (with_reducible refine LeO.ite ?_ ?_)
      | (with_reducible refine LeO.bind ?_ (fun _ => ?_))
      | exact ih0 _ _ _ _
      | exact LeO.none _
      | refine LeO.ite ?_ ?_
      | refine LeO.bind ?_ (fun _ => ?_)
theorem pack_TakeNum.mono : ∀ a0 k, LeO (pack_TakeNum.f k a0) (pack_TakeNum.f (k + 1) a0) := by
  intro a0 k
  have ih0 := pack_TakeNum.mono_l k
  unfold pack_TakeNum.f
  repeat' first
      | (with_reducible exact ih0 _ _ _ _)
      | (with_reducible exact LeO.refl _)
      | (with_reducible exact LeO.none _)
      | (with_reducible refine LeO.ite ?_ ?_)
      | (with_reducible refine LeO.bind ?_ (fun _ => ?_))
      | exact ih0 _ _ _ _
      | exact LeO.none _
      | refine LeO.ite ?_ ?_
      | refine LeO.bind ?_ (fun _ => ?_)
set_option maxHeartbeats 8000000 in
set_option maxRecDepth 100000 in
theorem pack_TakeNum.calls (k : Nat) (a0 : ByteArray) (r1 : Int) (r2 : ByteArray) (r3 : Int) (w : World) (h : pack_TakeNum.f k a0 = some (r1, r2, r3)) :
    Calls Try.prog 92 #[.string a0] w fun e w' => e = .returned (.tuple #[.int .u64 r1, .string r2, .int .i64 r3]) ∧ Drawn0 w w' := by
  have H : (if a0.toList = ([] : List UInt8) then (some (0, (⟨#[]⟩ : ByteArray), 2)) else (if 0 < (a0.size : Int) then (if 0 ≤ ((bt a0 0) / 64) then (if (a0.size : Int) < (shl .i64 1 ((bt a0 0) / 64)) then (some (0, (⟨#[]⟩ : ByteArray), 2)) else (pack_TakeNum.l0 k a0 (shl .i64 1 ((bt a0 0) / 64)) (IntKind.u64.wrap (Go.bits .and .u8 (bt a0 0) 63)) 1)) else (none)) else (none))) = some (r1, r2, r3) := h
  clear h
  by_cases c2 : a0.toList = ([] : List UInt8)
  · rw [if_pos c2] at H
    have c2b0 : (a0.toList == ([] : List UInt8)) = true := beq_iff_eq.mpr c2
    have c2b1 : (a0.toList != ([] : List UInt8)) = false := bne_eq_false_iff_eq.mpr c2
    clear c2
    simp only [Option.some.injEq, Prod.mk.injEq] at H
    obtain ⟨rfl, rfl, rfl⟩ := H
    go_enter Try.func92, Try.ntmps92
    go_wp2
    repeat (go_quiet (fail); try go_wp2)
    go_ret3
    exact ⟨by first | rfl | (simp; done) | (simp [*]; done), by repeat (first | exact Drawn0.refl _ | apply Drawn0.step)⟩
  · rw [if_neg c2] at H
    have c2b0 : (a0.toList == ([] : List UInt8)) = false := beq_eq_false_iff_ne.mpr c2
    have c2b1 : (a0.toList != ([] : List UInt8)) = true := bne_iff_ne.mpr c2
    by_cases c3 : 0 < (a0.size : Int)
    · rw [if_pos c3] at H
      have c3b0 : decide (0 < (a0.size : Int)) = true := decide_eq_true c3
      have c3b1 : decide (0 < a0.size) = true := decide_eq_true (by omega)
      clear c3
      obtain ⟨ji5, hji5⟩ : ∃ j_ : Int, ((bt a0 0) / 64) = j_ := ⟨_, rfl⟩
      replace H : (if 0 ≤ (ji5) then (if (a0.size : Int) < (shl .i64 1 (ji5)) then (some (0, (⟨#[]⟩ : ByteArray), 2)) else (pack_TakeNum.l0 k a0 (shl .i64 1 (ji5)) (IntKind.u64.wrap (Go.bits .and .u8 (bt a0 0) 63)) 1)) else (none)) = some (r1, r2, r3) := by first | (rw [hji5] at H; exact H) | (simp only [hji5] at H ⊢; exact H)
      by_cases c6 : 0 ≤ (ji5)
      · rw [if_pos c6] at H
        have c6b0 := eq_true c6
        have c6b1 : decide (0 ≤ (ji5)) = true := decide_eq_true c6
        clear c6
        obtain ⟨ji7, hji7⟩ : ∃ j_ : Int, (shl .i64 1 (ji5)) = j_ := ⟨_, rfl⟩
        replace H : (if (a0.size : Int) < (ji7) then (some (0, (⟨#[]⟩ : ByteArray), 2)) else (pack_TakeNum.l0 k a0 ji7 (IntKind.u64.wrap (Go.bits .and .u8 (bt a0 0) 63)) 1)) = some (r1, r2, r3) := by first | (rw [hji7] at H; exact H) | (simp only [hji7] at H ⊢; exact H)
        have hji7_ : (IntKind.i64.wrap (1 * 2 ^ min (ji5).toNat 64)) = ji7 := hji7
        have hji7z : (ji5) ≤ 64 → (IntKind.i64.wrap (1 * 2 ^ (ji5).toNat)) = ji7 := shl_small hji7
        have hji7u : (IntKind.i64.wrap (2 ^ min (ji5).toNat 64)) = ji7 := by have h_ := hji7_; rw [Int.one_mul] at h_; exact h_
        have hji7v : (ji5) ≤ 64 → (IntKind.i64.wrap (2 ^ (ji5).toNat)) = ji7 := fun hle_ => by have h_ := hji7z hle_; rw [Int.one_mul] at h_; exact h_
        have hji7y : (wrap64 (1 * 2 ^ min (ji5).toNat 64)) = ji7 := (i64_w _).symm.trans hji7_
        have hji7x : (ji5) ≤ 64 → (wrap64 (1 * 2 ^ (ji5).toNat)) = ji7 := fun h_ => (i64_w _).symm.trans (hji7z h_)
        by_cases c8 : (a0.size : Int) < (ji7)
        · rw [if_pos c8] at H
          have c8b0 : decide ((a0.size : Int) < (ji7)) = true := decide_eq_true c8
          clear c8
          simp only [Option.some.injEq, Prod.mk.injEq] at H
          obtain ⟨rfl, rfl, rfl⟩ := H
          have p4 : 0 ≤ (0 : Int) := (by omega)
          have q4 : 0 < a0.size := (by have : (0 : Int) < (a0.size : Int) := of_decide_eq_true (by first | (with_reducible assumption) | assumption); omega)
          have hx4 : ∀ h : 0 < a0.size, ((a0[0]'h).toNat : Int) = bt a0 0 := bt_at a0 0
          clear p4
          have qi4 : (0 < (a0.size : Int)) = True := eq_true (of_decide_eq_true (by first | (with_reducible assumption) | assumption))
          replace q4 := eq_true q4
          go_enter Try.func92, Try.ntmps92
          go_wp2
          repeat (go_quiet (fail); try go_wp2)
          go_ret3
          exact ⟨by first | rfl | (simp; done) | (simp only [← hji5, ← hji7] <;> (first | rfl | simp)) | (simp [*]; done), by repeat (first | exact Drawn0.refl _ | apply Drawn0.step)⟩
        · rw [if_neg c8] at H
          have c8b0 : decide ((a0.size : Int) < (ji7)) = false := decide_eq_false c8
          clear c8
          have H' := Aside0.mk H
          clear H
          have p4 : 0 ≤ (0 : Int) := (by omega)
          have q4 : 0 < a0.size := (by have : (0 : Int) < (a0.size : Int) := of_decide_eq_true (by first | (with_reducible assumption) | assumption); omega)
          have hx4 : ∀ h : 0 < a0.size, ((a0[0]'h).toNat : Int) = bt a0 0 := bt_at a0 0
          clear p4
          have qi4 : (0 < (a0.size : Int)) = True := eq_true (of_decide_eq_true (by first | (with_reducible assumption) | assumption))
          replace q4 := eq_true q4
          have p9 : 0 ≤ (0 : Int) := (by omega)
          have q9 : 0 < a0.size := (by have : (0 : Int) < (a0.size : Int) := of_decide_eq_true (by first | (with_reducible assumption) | assumption); omega)
          have hx9 : ∀ h : 0 < a0.size, ((a0[0]'h).toNat : Int) = bt a0 0 := bt_at a0 0
          clear p9
          have qi9 : (0 < (a0.size : Int)) = True := eq_true (of_decide_eq_true (by first | (with_reducible assumption) | assumption))
          replace q9 := eq_true q9
          go_enter Try.func92, Try.ntmps92
          go_wp2
          repeat (go_quiet (fail); try go_wp2)
          go_loopg [6, 7] k (fun kq v6 v7 w' => ∃ (x6_1 : Int) (x7_1 : Int), v6 = .int .u64 x6_1 ∧ v7 = .int .i64 x7_1 ∧ Aside0 (pack_TakeNum.l0 kq a0 ji7 x6_1 x7_1 = some (r1, r2, r3)) ∧ Aside0 (kq ≤ k) ∧ Drawn0 w w')
          case atStart => exact ⟨(IntKind.u64.wrap (Go.bits .and .u8 (bt a0 0) 63)), (1), (by first | rfl | (simp; done) | (simp [*]; done)), (by first | rfl | (simp; done) | (simp [*]; done)), H', ⟨Nat.le_refl _⟩, by repeat (first | exact Drawn0.refl _ | apply Drawn0.step)⟩
          case round =>
            clear H'
            try clear c2
            try clear c2b0
            try clear c2b1
            try clear p2
            try clear c3
            try clear c3b0
            try clear c3b1
            try clear p4
            try clear q4
            try clear hx4
            try clear qi4
            try clear c6
            try clear c6b0
            try clear c6b1
            try clear p6
            try clear c8
            try clear c8b0
            try clear c9
            try clear p9
            try clear q9
            try clear hx9
            try clear qi9
            try clear p4
            try clear p9
            try clear q4
            try clear q9
            obtain ⟨x6_1, x7_1, rfl, rfl, HA, HK1, ⟨m1, rfl⟩⟩ := hrel
            cases gk with
            | zero => exact absurd HA.out (by simp [pack_TakeNum.l0])
            | succ k1 =>
              have H := HA.out
              clear HA
              simp only [pack_TakeNum.l0] at H
              by_cases c10 : x7_1 < ji7
              · rw [if_pos c10] at H
                have c10b0 : decide (x7_1 < ji7) = true := decide_eq_true c10
                clear c10
                by_cases c11 : 0 ≤ x7_1
                · rw [if_pos c11] at H
                  have c11b0 : decide (0 ≤ x7_1) = true := decide_eq_true c11
                  clear c11
                  by_cases c12 : x7_1 < (a0.size : Int)
                  · rw [if_pos c12] at H
                    have c12b0 : decide (x7_1 < (a0.size : Int)) = true := decide_eq_true c12
                    clear c12
                    have H' := Aside0.mk H
                    clear H
                    have p13 : 0 ≤ (x7_1 : Int) := of_decide_eq_true (by first | (with_reducible assumption) | assumption)
                    have q13 : x7_1 < (a0.size : Int) := of_decide_eq_true (by first | (with_reducible assumption) | assumption)
                    have hx13 := bt_at a0 x7_1
                    replace p13 := eq_true p13
                    replace q13 := eq_true q13
                    go_wp2
                    repeat (go_quiet (fail); try go_wp2)
                    go_roundg k1
                    case measure => have := HK1.out; omega
                    case rel => exact ⟨(Go.bits .or .u64 (IntKind.u64.wrap (x6_1 * 256)) (IntKind.u64.wrap (bt a0 x7_1))), (wrap64 (x7_1 + 1)), (by first | rfl | (simp; done) | (simp [*]; done)), (by first | rfl | (simp; done) | (simp [*]; done)), H', ⟨by have := HK1.out; omega⟩, by repeat (first | exact Drawn0.refl _ | apply Drawn0.step)⟩
                  · rw [if_neg c12] at H
                    exact absurd H (by simp)
                · rw [if_neg c11] at H
                  exact absurd H (by simp)
              · rw [if_neg c10] at H
                have c10b0 : decide (x7_1 < ji7) = false := decide_eq_false c10
                clear c10
                replace H := Option.bind_eq_some_iff.mp H
                obtain ⟨t191, A140, H⟩ := H
                replace H : (if t191 = ji7 then (if 0 ≤ ji7 then (if ji7 ≤ (a0.size : Int) then (some (x6_1, a0.extract (ji7 : Int).toNat a0.size, 0)) else (none)) else (none)) else (some (0, (⟨#[]⟩ : ByteArray), 3))) = some (r1, r2, r3) := H
                have A14 := Aside0.mk A140
                clear A140
                by_cases c15 : t191 = ji7
                · rw [if_pos c15] at H
                  have c15b0 : (t191 == ji7) = true := beq_iff_eq.mpr c15
                  have c15b1 : (t191 != ji7) = false := bne_eq_false_iff_eq.mpr c15
                  clear c15
                  by_cases c16 : 0 ≤ ji7
                  · rw [if_pos c16] at H
                    have c16b0 := eq_true c16
                    have c16b1 : decide (0 ≤ ji7) = true := decide_eq_true c16
                    clear c16
                    by_cases c17 : ji7 ≤ (a0.size : Int)
                    · rw [if_pos c17] at H
                      have c17b0 := eq_true c17
                      have c17b1 : decide (ji7 ≤ (a0.size : Int)) = true := decide_eq_true c17
                      clear c17
                      simp only [Option.some.injEq, Prod.mk.injEq] at H
                      obtain ⟨rfl, rfl, rfl⟩ := H
                      go_wp2_with (first | (go_at_call 53; (with_reducible refine (pack_Size.calls x6_1 t191 _ A14.out).mono ?_); rintro e w' ⟨rfl, ⟨nd, rfl⟩⟩; (try first | exact ⟨rfl, _, World.drewN_drewN _ _ _⟩ | exact ⟨rfl, _, Eq.trans (World.drewN_drewN _ _ _) (congrArg (World.drewN _) (Nat.add_assoc _ _ _))⟩)))
                      repeat (go_quiet (first | (go_at_call 53; (with_reducible refine (pack_Size.calls x6_1 t191 _ A14.out).mono ?_); rintro e w' ⟨rfl, ⟨nd, rfl⟩⟩; (try first | exact ⟨rfl, _, World.drewN_drewN _ _ _⟩ | exact ⟨rfl, _, Eq.trans (World.drewN_drewN _ _ _) (congrArg (World.drewN _) (Nat.add_assoc _ _ _))⟩))); try go_wp2_with (first | (go_at_call 53; (with_reducible refine (pack_Size.calls x6_1 t191 _ A14.out).mono ?_); rintro e w' ⟨rfl, ⟨nd, rfl⟩⟩; (try first | exact ⟨rfl, _, World.drewN_drewN _ _ _⟩ | exact ⟨rfl, _, Eq.trans (World.drewN_drewN _ _ _) (congrArg (World.drewN _) (Nat.add_assoc _ _ _))⟩))))
                      go_ret3
                      exact ⟨by first | rfl | (simp; done) | (simp only [← hji5, ← hji7] <;> (first | rfl | simp)) | (simp [*]; done), by repeat (first | exact Drawn0.refl _ | apply Drawn0.step)⟩
                    · rw [if_neg c17] at H
                      exact absurd H (by simp)
                  · rw [if_neg c16] at H
                    exact absurd H (by simp)
                · rw [if_neg c15] at H
                  have c15b0 : (t191 == ji7) = false := beq_eq_false_iff_ne.mpr c15
                  have c15b1 : (t191 != ji7) = true := bne_iff_ne.mpr c15
                  simp only [Option.some.injEq, Prod.mk.injEq] at H
                  obtain ⟨rfl, rfl, rfl⟩ := H
                  go_wp2_with (first | (go_at_call 53; (with_reducible refine (pack_Size.calls x6_1 t191 _ A14.out).mono ?_); rintro e w' ⟨rfl, ⟨nd, rfl⟩⟩; (try first | exact ⟨rfl, _, World.drewN_drewN _ _ _⟩ | exact ⟨rfl, _, Eq.trans (World.drewN_drewN _ _ _) (congrArg (World.drewN _) (Nat.add_assoc _ _ _))⟩)))
                  repeat (go_quiet (first | (go_at_call 53; (with_reducible refine (pack_Size.calls x6_1 t191 _ A14.out).mono ?_); rintro e w' ⟨rfl, ⟨nd, rfl⟩⟩; (try first | exact ⟨rfl, _, World.drewN_drewN _ _ _⟩ | exact ⟨rfl, _, Eq.trans (World.drewN_drewN _ _ _) (congrArg (World.drewN _) (Nat.add_assoc _ _ _))⟩))); try go_wp2_with (first | (go_at_call 53; (with_reducible refine (pack_Size.calls x6_1 t191 _ A14.out).mono ?_); rintro e w' ⟨rfl, ⟨nd, rfl⟩⟩; (try first | exact ⟨rfl, _, World.drewN_drewN _ _ _⟩ | exact ⟨rfl, _, Eq.trans (World.drewN_drewN _ _ _) (congrArg (World.drewN _) (Nat.add_assoc _ _ _))⟩))))
                  go_ret3
                  exact ⟨by first | rfl | (simp; done) | (simp only [← hji5, ← hji7] <;> (first | rfl | simp)) | (simp [*]; done), by repeat (first | exact Drawn0.refl _ | apply Drawn0.step)⟩
      · rw [if_neg c6] at H
        exact absurd H (by simp)
    · rw [if_neg c3] at H
      exact absurd H (by simp)

end Go.Proofs.Ytfjhlcbpogihmaa.Pr
namespace Go.Proofs.Ytfjhlcbpogihmaa.Pr
open Go.RowKit Go.Proofs.YtfjhlcbpogihmaaW.PrintWords Go.Proofs.YtfjhlcbpogihmaaW.PrintLast Go.Proofs.YtfjhlcbpogihmaaW.PrintMore
open Go.Proofs.Ytfjhlcbpogihmaa.Hnd
attribute [local go_sem] setCell_drewN_ alloc_drewN_
set_option linter.unusedVariables false
set_option linter.unusedSimpArgs false
/-- So many numbers that begin a text, behind those that were taken. -/
def severalF (k : Nat) : Nat → ByteArray → List Int → Option (List Int × ByteArray × Int)
  | 0, s, out => some (out, s, 0)
  | n + 1, s, out => (pack_TakeNum.f k s).bind fun b => if b.2.2 = 0 then (if out.length < 17592186044415 then severalF k n b.2.1 (out ++ [b.1]) else none) else some ([], (⟨#[]⟩ : ByteArray), b.2.2)
def inU (x : Int) : Bool := decide (0 ≤ x) && decide (x < 18446744073709551616)
def pack_TakeNums.f (k : Nat) (a0 : ByteArray) (a1 : Int) : Option (List Int × ByteArray × Int) :=
  (pack_TakeNum.f k a0).bind fun b => if inU b.1 = true then (if b.2.2 = 0 then (if a1 < 0 then some ([], (⟨#[]⟩ : ByteArray), 4) else if b.1 > IntKind.u64.wrap a1 then some ([], (⟨#[]⟩ : ByteArray), 4) else severalF k b.1.toNat b.2.1 []) else some ([], (⟨#[]⟩ : ByteArray), b.2.2)) else none
theorem severalF_mono (k : Nat) : ∀ n s out, LeO (severalF k n s out) (severalF (k + 1) n s out)
  | 0, _, _ => LeO.refl _
  | n + 1, s, out => LeO.bind (pack_TakeNum.mono _ _) (fun b => LeO.ite (LeO.ite (severalF_mono k n _ _) (LeO.refl _)) (LeO.refl _))
theorem pack_TakeNums.mono : ∀ a0 a1 k, LeO (pack_TakeNums.f k a0 a1) (pack_TakeNums.f (k + 1) a0 a1) := fun a b k =>
  LeO.bind (pack_TakeNum.mono _ _) (fun b => LeO.ite (LeO.ite (LeO.ite (LeO.refl _) (LeO.ite (LeO.refl _) (severalF_mono k _ _ _))) (LeO.refl _)) (LeO.refl _))
theorem infoU8s : (Try.prog.info? 25).map (fun i => (i.zero, i.size, i.bytes)) = some (some (.int .u64 0), 1, 8) := by kernel_rfl
set_option maxHeartbeats 4000000 in
set_option maxRecDepth 100000 in
theorem several_calls (k : Nat) (s0 : ByteArray) (n : Nat) (hn : (n : Int) < 18446744073709551616) (r1 : List Int) (r2 : ByteArray) (r3 : Int) (w : World) (h : severalF k n s0 [] = some (r1, r2, r3)) :
    Calls Try.prog 94 #[.string s0, .int .u64 (n : Int), .func (.func 92) #[] #[]] w fun e w' => ∃ v0_ : Value, e = .returned (.tuple #[v0_, .string r2, .int .i64 r3]) ∧ Kd.R (Kd.int .u64) 25 w' w.heap.size (fun _ => True) v0_ r1 ∧ Below w.heap.size w w' := by
  have HF := Aside0.mk h
  have HN := Aside0.mk hn
  clear h hn
  go_enter Try.func94, Try.ntmps94
  go_wp2_with fail
  go_loopg [0, 9, 10, 11, 12, 14] n (fun g v0 v9 v10 v11 v12 v14 wr => ∃ (i : Nat) (s : ByteArray) (out : List Int), v0 = .string s ∧ v14 = .int .u64 (i : Int) ∧ Aside0 (i ≤ n ∧ n - i ≤ g) ∧ Aside0 (severalF k (n - i) s out = some (r1, r2, r3)) ∧ Aside0 (Kd.R (Kd.int .u64) 25 wr w.heap.size (fun _ => True) v9 out) ∧ Aside0 (Below w.heap.size w wr))
  case atStart => exact ⟨0, s0, [], rfl, rfl, ⟨by omega⟩, HF, ⟨Kd.R_nil _ _ _ _ _⟩, ⟨Below.refl _ _⟩⟩
  case round =>
    clear HF
    obtain ⟨i, s, out, rfl, rfl, HI, HT, HO, HB⟩ := hrel
    by_cases hlt : (i : Int) < (n : Int)
    · have hltb := decide_eq_true hlt
      have hT := HT.out
      rw [show n - i = (n - (i + 1)) + 1 from by omega] at hT
      unfold severalF at hT
      replace hT := Option.bind_eq_some_iff.mp hT
      obtain ⟨⟨x, rest, er⟩, hN, hT⟩ := hT
      have HTN := Aside0.mk hN
      clear hN HT
      dsimp only at hT
      have hwi : IntKind.u64.wrap ((i : Int) + 1) = ((i + 1 : Nat) : Int) := by have := HN.out; simp [IntKind.wrap, IntKind.signed, IntKind.bits]; omega
      by_cases her : er = 0
      · rw [if_pos her] at hT
        by_cases hlen : out.length < 17592186044415
        rotate_left
        · rw [if_neg hlen] at hT; cases hT
        rw [if_pos hlen] at hT
        have HT := Aside0.mk hT
        have HLen := Aside0.mk hlen
        have hneb : (er != 0) = false := by rw [her]; rfl
        clear hT hlen
        subst her
        go_wp2_with fail
        refine (pack_TakeNum.calls k s x rest 0 _ HTN.out).mono ?_
        rintro e w1 ⟨rfl, hb0⟩
        have hb := hb0.below
        have HB1 := Aside0.mk (below_call HB.out hb)
        have HO1 := Aside0.mk (Kd.R_below HO.out hb)
        clear hb hb0
        obtain ⟨Ao, co, eo⟩ := Kd.R_slice HO1.out
        subst eo
        go_wp2_with ((with_reducible refine gate_builtin (b := .append) (xs := #[.tmp 26, .tmp 28]) rfl ?_); (try (refine gate_guard (by rfl) ?_; dsimp only)); at_builtin; refine Kd.R_append (Kd.int .u64) (w0 := w) w.heap.size rfl (.tmp 26) (.tmp 28) 79 25 (.int .u64 0) 8 rfl Try.underlying79 infoU8s rfl (by decide) (by omega) _ out x [.int .u64 x] (fun _ => True) (fun _ => False) rfl rfl ?aP (fun _ hk => hk.elim) ?aF ?aO ?aB ?aS ?aL ?_; (case aP => exact rfl); (case aB => exact HB1.out); (case aF => exact (fun _ _ => trivial)); (case aO => exact HO1.out); (case aS => exact HB1.out.size); (case aL => have := HLen.out; omega); intro v4 w4 ho hb hg hat; have HO4 := Aside0.mk ho; have HB4 := Aside0.mk hb; clear ho hb hg hat)
        go_roundg (gk - 1)
        case measure => have := HI.out; omega
        case rel => exact ⟨i + 1, rest, out ++ [x], rfl, by first | rfl | (rw [hwi]), ⟨by have := HI.out; omega⟩, HT, HO4, HB4⟩
      · rw [if_neg her] at hT
        simp only [Option.some.injEq, Prod.mk.injEq] at hT
        obtain ⟨rfl, rfl, rfl⟩ := hT
        have hneb : (er != 0) = true := bne_iff_ne.mpr her
        go_wp2_with fail
        refine (pack_TakeNum.calls k s x rest er _ HTN.out).mono ?_
        rintro e w1 ⟨rfl, hb0⟩
        have HB1 := Aside0.mk (below_call HB.out (hb0.below))
        clear hb0
        go_wp2_with fail
        go_ret3
        exact ⟨_, rfl, Kd.R_nil _ _ _ _ _, HB1.out⟩
    · have hltb := decide_eq_false hlt
      have hie : i = n := by have := HI.out; omega
      have hT := HT.out
      rw [hie, Nat.sub_self] at hT
      unfold severalF at hT
      simp only [Option.some.injEq, Prod.mk.injEq] at hT
      obtain ⟨rfl, rfl, rfl⟩ := hT
      clear HT hie
      go_wp2_with fail
      go_ret3
      exact ⟨_, rfl, HO.out, HB.out⟩
set_option maxHeartbeats 4000000 in
set_option maxRecDepth 100000 in
theorem pack_TakeNums.calls (k : Nat) (a0 : ByteArray) (a1 : Int) (r1 : List Int) (r2 : ByteArray) (r3 : Int) (w : World) (h : pack_TakeNums.f k a0 a1 = some (r1, r2, r3)) :
    Calls Try.prog 83 #[.string a0, .int .i64 a1] w fun e w' => ∃ v0_ : Value, e = .returned (.tuple #[v0_, .string r2, .int .i64 r3]) ∧ Kd.R (Kd.int .u64) 25 w' w.heap.size (fun _ => True) v0_ r1 ∧ Below w.heap.size w w' := by
  unfold pack_TakeNums.f at h
  replace h := Option.bind_eq_some_iff.mp h
  obtain ⟨⟨x, rest, er⟩, hN, h⟩ := h
  dsimp only at h
  by_cases hx : inU x = true
  rotate_left
  · rw [if_neg hx] at h; cases h
  rw [if_pos hx] at h
  have HTN := Aside0.mk hN
  have HX := Aside0.mk hx
  clear hN hx
  by_cases her : er = 0
  · rw [if_pos her] at h
    have hneb : (er != 0) = false := by rw [her]; rfl
    subst her
    by_cases hm : a1 < 0
    · rw [if_pos hm] at h
      simp only [Option.some.injEq, Prod.mk.injEq] at h
      obtain ⟨rfl, rfl, rfl⟩ := h
      have hmb := decide_eq_true hm
      clear hm
      go_enter Try.func83, Try.ntmps83
      go_wp2_with fail
      refine (pack_TakeNum.calls k a0 x rest 0 _ HTN.out).mono ?_
      rintro e w1 ⟨rfl, hb0⟩
      have HB1 := Aside0.mk (hb0.below)
      clear hb0
      go_wp2_with fail
      go_ret3
      exact ⟨_, rfl, Kd.R_nil _ _ _ _ _, HB1.out⟩
    · rw [if_neg hm] at h
      have hmb := decide_eq_false hm
      by_cases hg : x > IntKind.u64.wrap a1
      · rw [if_pos hg] at h
        simp only [Option.some.injEq, Prod.mk.injEq] at h
        obtain ⟨rfl, rfl, rfl⟩ := h
        have hgb : decide (IntKind.u64.wrap a1 < x) = true := decide_eq_true hg
        have hgc : decide (x > IntKind.u64.wrap a1) = true := decide_eq_true hg
        clear hm hg
        go_enter Try.func83, Try.ntmps83
        go_wp2_with fail
        refine (pack_TakeNum.calls k a0 x rest 0 _ HTN.out).mono ?_
        rintro e w1 ⟨rfl, hb0⟩
        have HB1 := Aside0.mk (hb0.below)
        clear hb0
        go_wp2_with fail
        go_ret3
        exact ⟨_, rfl, Kd.R_nil _ _ _ _ _, HB1.out⟩
      · rw [if_neg hg] at h
        have hgb : decide (IntKind.u64.wrap a1 < x) = false := decide_eq_false hg
        have hgc : decide (x > IntKind.u64.wrap a1) = false := decide_eq_false hg
        clear hm hg
        have hx := HX.out
        unfold inU at hx
        rw [Bool.and_eq_true, decide_eq_true_iff, decide_eq_true_iff] at hx
        have HS := Aside0.mk h
        obtain ⟨n, hn⟩ : ∃ n : Nat, x = (n : Int) := ⟨x.toNat, by omega⟩
        subst hn
        rw [Int.toNat_natCast] at HS
        have HN := Aside0.mk hx.2
        clear h hx
        go_enter Try.func83, Try.ntmps83
        go_wp2_with fail
        refine (pack_TakeNum.calls k a0 (n : Int) rest 0 _ HTN.out).mono ?_
        rintro e w1 ⟨rfl, hb0⟩
        have HB1 := Aside0.mk (hb0.below)
        clear hb0
        go_wp2_with fail
        refine (several_calls k rest n HN.out r1 r2 r3 _ HS.out).mono ?_
        rintro e w2 ⟨v2, rfl, ho, hb⟩
        have HB2 := Aside0.mk (below_call HB1.out hb)
        have HO2 := Aside0.mk (Kd.R_lower ho HB1.out.size)
        clear ho hb
        go_wp2_with fail
        go_ret3
        exact ⟨_, rfl, HO2.out, HB2.out⟩
  · rw [if_neg her] at h
    simp only [Option.some.injEq, Prod.mk.injEq] at h
    obtain ⟨rfl, rfl, rfl⟩ := h
    have hneb : (er != 0) = true := bne_iff_ne.mpr her
    go_enter Try.func83, Try.ntmps83
    go_wp2_with fail
    refine (pack_TakeNum.calls k a0 x rest er _ HTN.out).mono ?_
    rintro e w1 ⟨rfl, hb0⟩
    have HB1 := Aside0.mk (hb0.below)
    clear hb0
    go_wp2_with fail
    go_ret3
    exact ⟨_, rfl, Kd.R_nil _ _ _ _ _, HB1.out⟩
end Go.Proofs.Ytfjhlcbpogihmaa.Pr
namespace Go.Proofs.Ytfjhlcbpogihmaa.Pr
open Go.RowKit Go.Proofs.YtfjhlcbpogihmaaW.PrintWords Go.Proofs.YtfjhlcbpogihmaaW.PrintLast Go.Proofs.YtfjhlcbpogihmaaW.PrintMore
attribute [local go_sem] max2_int min2_int max_two min_two max_three min_three max_four min_four   -- for this text's walks alone
set_option linter.unusedVariables false
set_option linter.unusedSimpArgs false

/-! ### post_headOf: function 57 -/
def post_headOf.f (a0_0 : Int) (a0_1 : Int) (a0_2 : Int) (a0_3 : Int) (a0_4 : Int) (a0_5 : Int) (a0_6 : Int) (a0_7 : Bool) (l0_8 : List (S75)) (a0_9 : ByteArray) : Option (Int × Int × Int × Int × Int × Int × Int × Bool × ByteArray) := some (IntKind.u64.wrap (a0_0), a0_1, a0_2, a0_3, a0_4, a0_5, a0_6, a0_7, a0_9)
set_option maxHeartbeats 8000000 in
set_option maxRecDepth 100000 in
theorem post_headOf.calls (a0_0 : Int) (a0_1 : Int) (a0_2 : Int) (a0_3 : Int) (a0_4 : Int) (a0_5 : Int) (a0_6 : Int) (a0_7 : Bool) (A0_8 : Option Addr) (c0_8 : Nat) (l0_8 : List (S75)) (a0_9 : ByteArray) (r1 : Int) (r2 : Int) (r3 : Int) (r4 : Int) (r5 : Int) (r6 : Int) (r7 : Int) (r8 : Bool) (r9 : ByteArray) (w : World) (hr0_8 : Kd.C k75 w A0_8 l0_8.length l0_8) (hc0_8 : l0_8.length ≤ c0_8) (h : post_headOf.f a0_0 a0_1 a0_2 a0_3 a0_4 a0_5 a0_6 a0_7 l0_8 a0_9 = some (r1, r2, r3, r4, r5, r6, r7, r8, r9)) :
    Calls Try.prog 57 #[.agg #[.int .i64 a0_0, .int .u64 a0_1, .int .u64 a0_2, .int .u64 a0_3, .int .u64 a0_4, .int .u64 a0_5, .int .u64 a0_6, .bool a0_7, .slice A0_8 l0_8.length c0_8, .string a0_9]] w fun e w' => e = .returned (.agg #[.int .u64 r1, .int .u64 r2, .int .u64 r3, .int .u64 r4, .int .u64 r5, .int .u64 r6, .int .u64 r7, .bool r8, .string r9]) ∧ Below w.heap.size w w' := by
  have hu57 := Try.underlying57
  have hu101 := Try.underlying101
  have HR0_8 := Aside0.mk hr0_8
  have HC0_8 := Aside0.mk hc0_8
  clear hr0_8 hc0_8
  have HB := Aside0.mk (Below.refl w.heap.size w)
  have H : (some (IntKind.u64.wrap (a0_0), a0_1, a0_2, a0_3, a0_4, a0_5, a0_6, a0_7, a0_9)) = some (r1, r2, r3, r4, r5, r6, r7, r8, r9) := h
  clear h
  simp only [Option.some.injEq, Prod.mk.injEq] at H
  obtain ⟨rfl, rfl, rfl, rfl, rfl, rfl, rfl, rfl, rfl⟩ := H
  go_enter Try.func57, Try.ntmps57
  go_wp2_with (first | ((with_reducible refine gate_dst (N := 1) rfl ?_); refine box_event ?hg (N := 1) ?hd (cs := #[.int .i64 a0_0, .int .u64 a0_1, .int .u64 a0_2, .int .u64 a0_3, .int .u64 a0_4, .int .u64 a0_5, .int .u64 a0_6, .bool a0_7, .slice A0_8 l0_8.length c0_8, .string a0_9]) (t := 57) ?hr ?_; (case hd => rfl); (case hg => rfl); (case hr => first | (go_simp; done) | (go_simp; rfl)); intro gb392 hg w2 hbox hb; have n0_ := Aside0.mk (below_step (by repeat (first | (with_reducible first | exact HB.out | apply below_alloc | apply pw_below_drewN | apply below_drew1) | exact HB.out | exact Below.refl _ _)) hb); have n1_ := Aside0.mk (hbox); have n2_ := Aside0.mk ((by rw [hg]; exact (below_size (by repeat (first | (with_reducible first | exact HB.out | apply below_alloc | apply pw_below_drewN | apply below_drew1) | exact HB.out))) : w.heap.size ≤ gb392)); have n3_ := Aside0.mk ((by rw [hg]; exact (below_size (by repeat (first | (with_reducible first | exact HB.out | apply below_alloc | apply pw_below_drewN | apply below_drew1) | exact HB.out))) : w.heap.size ≤ gb392)); clear HB; have HB := n0_; have BK392 := n1_; have GW392 := n2_; have GE392 := n3_; clear n0_ n1_ n2_ n3_; clear hb hbox hg) | ((with_reducible refine gate_dst (N := 2) rfl ?_); refine box_event ?hg (N := 2) ?hd (cs := #[.int .u64 0, .int .u64 0, .int .u64 0, .int .u64 0, .int .u64 0, .int .u64 0, .int .u64 0, .bool false, .string (⟨#[]⟩ : ByteArray)]) (t := 101) ?hr ?_; (case hd => rfl); (case hg => rfl); (case hr => first | (go_simp; done) | (go_simp; rfl)); intro gb393 hg w3 hbox hb; have n0_ := Aside0.mk (blk_below (g := gb392) (o := .cells #[.int .i64 a0_0, .int .u64 a0_1, .int .u64 a0_2, .int .u64 a0_3, .int .u64 a0_4, .int .u64 a0_5, .int .u64 a0_6, .bool a0_7, .slice A0_8 l0_8.length c0_8, .string a0_9] 57 (0, 0)) (by (with_reducible repeat (first | refine blk_drewN ?_ _ | refine blk_drew ?_ | refine blk_alloc ?_ _)); exact BK392.out) hb); have n1_ := Aside0.mk (below_step (by repeat (first | (with_reducible first | exact HB.out | apply below_alloc | apply pw_below_drewN | apply below_drew1 | refine below_set ?_ GE392.out) | exact HB.out | exact Below.refl _ _)) hb); have n2_ := Aside0.mk (hbox); have n3_ := Aside0.mk ((by rw [hg]; exact (below_size (by repeat (first | (with_reducible first | exact HB.out | apply below_alloc | apply pw_below_drewN | apply below_drew1 | refine below_set ?_ GE392.out) | exact HB.out))) : w.heap.size ≤ gb393)); have n4_ := Aside0.mk ((by rw [hg]; exact (below_size (by repeat (first | (with_reducible first | exact HB.out | apply below_alloc | apply pw_below_drewN | apply below_drew1 | refine below_set ?_ GE392.out) | exact HB.out))) : w.heap.size ≤ gb393)); have n5_ := Aside0.mk ((by rw [hg]; exact Nat.ne_of_lt (blk_lt (g := gb392) (o := .cells #[.int .i64 a0_0, .int .u64 a0_1, .int .u64 a0_2, .int .u64 a0_3, .int .u64 a0_4, .int .u64 a0_5, .int .u64 a0_6, .bool a0_7, .slice A0_8 l0_8.length c0_8, .string a0_9] 57 (0, 0)) (by (with_reducible repeat (first | refine blk_drewN ?_ _ | refine blk_drew ?_ | refine blk_alloc ?_ _)); exact BK392.out)) : gb392 ≠ gb393)); have n6_ := Aside0.mk ((by rw [hg]; exact Nat.ne_of_gt (blk_lt (g := gb392) (o := .cells #[.int .i64 a0_0, .int .u64 a0_1, .int .u64 a0_2, .int .u64 a0_3, .int .u64 a0_4, .int .u64 a0_5, .int .u64 a0_6, .bool a0_7, .slice A0_8 l0_8.length c0_8, .string a0_9] 57 (0, 0)) (by (with_reducible repeat (first | refine blk_drewN ?_ _ | refine blk_drew ?_ | refine blk_alloc ?_ _)); exact BK392.out)) : gb393 ≠ gb392)); clear BK392; clear HB; have BK392 := n0_; have HB := n1_; have BK393 := n2_; have GW393 := n3_; have GE393 := n4_; have NB392_393 := n5_; have NB393_392 := n6_; clear n0_ n1_ n2_ n3_ n4_ n5_ n6_; clear hb hbox hg; have hnb4 := NB392_393.out; have hnc4 := NB393_392.out; have hcz5_0 : w3.cell? ⟨gb392, 0, none⟩ = some (.int .i64 a0_0) := (blk_cell BK392.out 0).trans rfl; have hcz5_1 : w3.cell? ⟨gb392, 1, none⟩ = some (.int .u64 a0_1) := (blk_cell BK392.out 1).trans rfl; have hcz5_2 : w3.cell? ⟨gb392, 2, none⟩ = some (.int .u64 a0_2) := (blk_cell BK392.out 2).trans rfl; have hcz5_3 : w3.cell? ⟨gb392, 3, none⟩ = some (.int .u64 a0_3) := (blk_cell BK392.out 3).trans rfl; have hcz5_4 : w3.cell? ⟨gb392, 4, none⟩ = some (.int .u64 a0_4) := (blk_cell BK392.out 4).trans rfl; have hcz5_5 : w3.cell? ⟨gb392, 5, none⟩ = some (.int .u64 a0_5) := (blk_cell BK392.out 5).trans rfl; have hcz5_6 : w3.cell? ⟨gb392, 6, none⟩ = some (.int .u64 a0_6) := (blk_cell BK392.out 6).trans rfl; have hcz5_7 : w3.cell? ⟨gb392, 7, none⟩ = some (.bool a0_7) := (blk_cell BK392.out 7).trans rfl; have hcz5_8 : w3.cell? ⟨gb392, 8, none⟩ = some (.slice A0_8 l0_8.length c0_8) := (blk_cell BK392.out 8).trans rfl; have hcz5_9 : w3.cell? ⟨gb392, 9, none⟩ = some (.string a0_9) := (blk_cell BK392.out 9).trans rfl; have hfz5_0 := blk_frozen BK392.out 0; have hfz5_1 := blk_frozen BK392.out 1; have hfz5_2 := blk_frozen BK392.out 2; have hfz5_3 := blk_frozen BK392.out 3; have hfz5_4 := blk_frozen BK392.out 4; have hfz5_5 := blk_frozen BK392.out 5; have hfz5_6 := blk_frozen BK392.out 6; have hfz5_7 := blk_frozen BK392.out 7; have hfz5_8 := blk_frozen BK392.out 8; have hfz5_9 := blk_frozen BK392.out 9; have hcz6_0 : w3.cell? ⟨gb393, 0, none⟩ = some (.int .u64 0) := (blk_cell BK393.out 0).trans rfl; have hcz6_1 : w3.cell? ⟨gb393, 1, none⟩ = some (.int .u64 0) := (blk_cell BK393.out 1).trans rfl; have hcz6_2 : w3.cell? ⟨gb393, 2, none⟩ = some (.int .u64 0) := (blk_cell BK393.out 2).trans rfl; have hcz6_3 : w3.cell? ⟨gb393, 3, none⟩ = some (.int .u64 0) := (blk_cell BK393.out 3).trans rfl; have hcz6_4 : w3.cell? ⟨gb393, 4, none⟩ = some (.int .u64 0) := (blk_cell BK393.out 4).trans rfl; have hcz6_5 : w3.cell? ⟨gb393, 5, none⟩ = some (.int .u64 0) := (blk_cell BK393.out 5).trans rfl; have hcz6_6 : w3.cell? ⟨gb393, 6, none⟩ = some (.int .u64 0) := (blk_cell BK393.out 6).trans rfl; have hcz6_7 : w3.cell? ⟨gb393, 7, none⟩ = some (.bool false) := (blk_cell BK393.out 7).trans rfl; have hcz6_8 : w3.cell? ⟨gb393, 8, none⟩ = some (.string (⟨#[]⟩ : ByteArray)) := (blk_cell BK393.out 8).trans rfl; have hfz6_0 := blk_frozen BK393.out 0; have hfz6_1 := blk_frozen BK393.out 1; have hfz6_2 := blk_frozen BK393.out 2; have hfz6_3 := blk_frozen BK393.out 3; have hfz6_4 := blk_frozen BK393.out 4; have hfz6_5 := blk_frozen BK393.out 5; have hfz6_6 := blk_frozen BK393.out 6; have hfz6_7 := blk_frozen BK393.out 7; have hfz6_8 := blk_frozen BK393.out 8))
  refine bodyPost_ret (results_cell_row rfl _ _ gb393 101 #[.int .u64 (IntKind.u64.wrap (a0_0)), .int .u64 a0_1, .int .u64 a0_2, .int .u64 a0_3, .int .u64 a0_4, .int .u64 a0_5, .int .u64 a0_6, .bool a0_7, .string a0_9] (0, 0) _ rfl (by (with_reducible repeat (first | refine blk_drewN ?_ _ | refine blk_drew ?_ | refine blk_alloc ?_ _)); refine blk_put (cs := #[.int .u64 (IntKind.u64.wrap (a0_0)), .int .u64 a0_1, .int .u64 a0_2, .int .u64 a0_3, .int .u64 a0_4, .int .u64 a0_5, .int .u64 a0_6, .bool a0_7, .string (⟨#[]⟩ : ByteArray)]) ?_ 8 _ rfl; (with_reducible repeat (first | refine blk_drewN ?_ _ | refine blk_drew ?_ | refine blk_alloc ?_ _)); refine blk_put (cs := #[.int .u64 (IntKind.u64.wrap (a0_0)), .int .u64 a0_1, .int .u64 a0_2, .int .u64 a0_3, .int .u64 a0_4, .int .u64 a0_5, .int .u64 a0_6, .bool false, .string (⟨#[]⟩ : ByteArray)]) ?_ 7 _ rfl; (with_reducible repeat (first | refine blk_drewN ?_ _ | refine blk_drew ?_ | refine blk_alloc ?_ _)); refine blk_put (cs := #[.int .u64 (IntKind.u64.wrap (a0_0)), .int .u64 a0_1, .int .u64 a0_2, .int .u64 a0_3, .int .u64 a0_4, .int .u64 a0_5, .int .u64 0, .bool false, .string (⟨#[]⟩ : ByteArray)]) ?_ 6 _ rfl; (with_reducible repeat (first | refine blk_drewN ?_ _ | refine blk_drew ?_ | refine blk_alloc ?_ _)); refine blk_put (cs := #[.int .u64 (IntKind.u64.wrap (a0_0)), .int .u64 a0_1, .int .u64 a0_2, .int .u64 a0_3, .int .u64 a0_4, .int .u64 0, .int .u64 0, .bool false, .string (⟨#[]⟩ : ByteArray)]) ?_ 5 _ rfl; (with_reducible repeat (first | refine blk_drewN ?_ _ | refine blk_drew ?_ | refine blk_alloc ?_ _)); refine blk_put (cs := #[.int .u64 (IntKind.u64.wrap (a0_0)), .int .u64 a0_1, .int .u64 a0_2, .int .u64 a0_3, .int .u64 0, .int .u64 0, .int .u64 0, .bool false, .string (⟨#[]⟩ : ByteArray)]) ?_ 4 _ rfl; (with_reducible repeat (first | refine blk_drewN ?_ _ | refine blk_drew ?_ | refine blk_alloc ?_ _)); refine blk_put (cs := #[.int .u64 (IntKind.u64.wrap (a0_0)), .int .u64 a0_1, .int .u64 a0_2, .int .u64 0, .int .u64 0, .int .u64 0, .int .u64 0, .bool false, .string (⟨#[]⟩ : ByteArray)]) ?_ 3 _ rfl; (with_reducible repeat (first | refine blk_drewN ?_ _ | refine blk_drew ?_ | refine blk_alloc ?_ _)); refine blk_put (cs := #[.int .u64 (IntKind.u64.wrap (a0_0)), .int .u64 a0_1, .int .u64 0, .int .u64 0, .int .u64 0, .int .u64 0, .int .u64 0, .bool false, .string (⟨#[]⟩ : ByteArray)]) ?_ 2 _ rfl; (with_reducible repeat (first | refine blk_drewN ?_ _ | refine blk_drew ?_ | refine blk_alloc ?_ _)); refine blk_put (cs := #[.int .u64 (IntKind.u64.wrap (a0_0)), .int .u64 0, .int .u64 0, .int .u64 0, .int .u64 0, .int .u64 0, .int .u64 0, .bool false, .string (⟨#[]⟩ : ByteArray)]) ?_ 1 _ rfl; (with_reducible repeat (first | refine blk_drewN ?_ _ | refine blk_drew ?_ | refine blk_alloc ?_ _)); refine blk_put (cs := #[.int .u64 0, .int .u64 0, .int .u64 0, .int .u64 0, .int .u64 0, .int .u64 0, .int .u64 0, .bool false, .string (⟨#[]⟩ : ByteArray)]) ?_ 0 _ rfl; (with_reducible repeat (first | refine blk_drewN ?_ _ | refine blk_drew ?_ | refine blk_alloc ?_ _)); exact BK393.out) Try.underlying101 rfl (by kernel_rfl)) rfl ?_
  exact ⟨by first | rfl | (simp [errW_none, errW_some] <;> rfl) | (simp [*, errW_none, errW_some] <;> rfl), by repeat (first | (with_reducible first | exact HB.out | apply below_alloc | apply pw_below_drewN | apply below_drew1 | refine below_set ?_ GE392.out | refine below_set ?_ GE393.out) | exact HB.out)⟩

/-! ### pack_Text: function 59 -/
def pack_Text.f (a0 : ByteArray) : Option (ByteArray × Int) := if (a0.size : Int) > 4096 then (some ((⟨#[]⟩ : ByteArray), 4)) else ((pack_Num.f (a0.size : Int)).bind fun bt394 => (if bt394.1.size + a0.size ≤ 9223372036854775807 then (some (bt394.1 ++ a0, bt394.2)) else (none)))
set_option maxHeartbeats 8000000 in
set_option maxRecDepth 100000 in
theorem pack_Text.calls (a0 : ByteArray) (r1 : ByteArray) (r2 : Int) (w : World) (h : pack_Text.f a0 = some (r1, r2)) :
    Calls Try.prog 59 #[.string a0] w fun e w' => e = .returned (.tuple #[.string r1, .int .i64 r2]) ∧ Below w.heap.size w w' := by
  have HB := Aside0.mk (Below.refl w.heap.size w)
  have H : (if (a0.size : Int) > 4096 then (some ((⟨#[]⟩ : ByteArray), 4)) else ((pack_Num.f (a0.size : Int)).bind fun bt394 => (if bt394.1.size + a0.size ≤ 9223372036854775807 then (some (bt394.1 ++ a0, bt394.2)) else (none)))) = some (r1, r2) := h
  clear h
  by_cases c2 : (a0.size : Int) > 4096
  · rw [if_pos c2] at H
    have c2b0 : decide (4096 < (a0.size : Int)) = true := decide_eq_true c2
    have c2b1 : decide (4096 < a0.size) = true := decide_eq_true (by omega)
    clear c2
    simp only [Option.some.injEq, Prod.mk.injEq] at H
    obtain ⟨rfl, rfl⟩ := H
    go_enter Try.func59, Try.ntmps59
    go_wp2
    go_ret2
    exact ⟨by first | rfl | (simp [errW_none, errW_some] <;> rfl) | (simp [*, errW_none, errW_some] <;> rfl), by repeat (first | (with_reducible first | exact HB.out | apply below_alloc | apply pw_below_drewN | apply below_drew1) | exact HB.out)⟩
  · rw [if_neg c2] at H
    have c2b0 : decide (4096 < (a0.size : Int)) = false := decide_eq_false c2
    have c2b1 : decide (4096 < a0.size) = false := decide_eq_false (by omega)
    clear c2
    replace H := Option.bind_eq_some_iff.mp H
    obtain ⟨⟨t394, t395⟩, A30, H⟩ := H
    replace H : (if t394.size + a0.size ≤ 9223372036854775807 then (some (t394 ++ a0, t395)) else (none)) = some (r1, r2) := H
    have A3 := Aside0.mk A30
    clear A30
    by_cases c4 : t394.size + a0.size ≤ 9223372036854775807
    · rw [if_pos c4] at H
      have c4b0 := eq_true c4
      have c4b1 : decide (t394.size + a0.size ≤ 9223372036854775807) = true := decide_eq_true c4
      try have c4b2 : (9223372036854775807 < t394.size + a0.size) = False := eq_false (Nat.not_lt.2 c4)
      simp only [Option.some.injEq, Prod.mk.injEq] at H
      obtain ⟨rfl, rfl⟩ := H
      go_enter Try.func59, Try.ntmps59
      go_wp2_with (first | ((with_reducible refine gate_callee (f := 58) rfl ?_); refine goesL_ (some 13) rfl rfl Try.func58 (by kernel_rfl) rfl #[.int .u64 (a0.size : Int)] rfl (by (try simp only [List.map_toArray, List.map_cons, List.map_nil]); first | done | rfl | (simp only [List.length_drop, List.length_take]; rfl)) ?_; (with_reducible refine (pack_Num.calls (a0.size : Int) t394 t395 _ A3.out).mono ?_); rintro e w5 ⟨rfl, hb⟩; refine ⟨_, rfl, ?_⟩; have n0_ := Aside0.mk (below_step (by repeat (first | (with_reducible first | exact HB.out | apply below_alloc | apply pw_below_drewN | apply below_drew1) | exact HB.out | exact Below.refl _ _)) hb); clear HB; have HB := n0_; clear n0_; (try clear hb); (try clear hb2); (try clear hk); (try clear hi)))
      go_ret2
      exact ⟨by first | rfl | (simp [errW_none, errW_some] <;> rfl) | (simp [*, errW_none, errW_some] <;> rfl), by repeat (first | (with_reducible first | exact HB.out | apply below_alloc | apply pw_below_drewN | apply below_drew1) | exact HB.out)⟩
    · rw [if_neg c4] at H
      exact absurd H (by simp)

end Go.Proofs.Ytfjhlcbpogihmaa.Pr
namespace Go.Proofs.Ytfjhlcbpogihmaa.Pr
open Go.RowKit Go.Proofs.YtfjhlcbpogihmaaW.PrintWords Go.Proofs.YtfjhlcbpogihmaaW.PrintLast Go.Proofs.YtfjhlcbpogihmaaW.PrintMore
attribute [local go_sem] max2_int min2_int max_two min_two max_three min_three max_four min_four   -- for this text's walks alone
set_option linter.unusedVariables false
set_option linter.unusedSimpArgs false

/-! ### ferruleref01_TakeNums: function 74 -/
mutual
def ferruleref01_TakeNums.j0 : Nat → Int → ByteArray → Bool → Option (List Int × ByteArray × Int)
  | 0, _, _, _ => none
  | k + 1, x7, x8, x31 => if x31 = true then (some (([] : List Int), (⟨#[]⟩ : ByteArray), 4)) else (ferruleref01_TakeNums.l0 k x7 x8 ([] : List Int) 0)
def ferruleref01_TakeNums.l0 : Nat → Int → ByteArray → List Int → Int → Option (List Int × ByteArray × Int)
  | 0, _, _, _, _ => none
  | k + 1, x7, x8, x10, x11 => if x11 < x7 then ((ferruleref01_TakeNum.f k x8).bind fun bt495 => (if bt495.2.2 = 0 then (if x10.length < 17592186044416 then (ferruleref01_TakeNums.l0 k x7 bt495.2.1 (x10 ++ [bt495.1]) (IntKind.u64.wrap (x11 + 1))) else (none)) else (some (([] : List Int), (⟨#[]⟩ : ByteArray), bt495.2.2)))) else (some (x10, x8, 0))
end
def ferruleref01_TakeNums.f (k : Nat) (a0 : ByteArray) (a1 : Int) : Option (List Int × ByteArray × Int) := (ferruleref01_TakeNum.f k a0).bind fun bt492 => (if bt492.2.2 = 0 then (if a1 < 0 then (ferruleref01_TakeNums.j0 k bt492.1 bt492.2.1 true) else (ferruleref01_TakeNums.j0 k bt492.1 bt492.2.1 (decide (bt492.1 > (IntKind.u64.wrap (a1)))))) else (some (([] : List Int), (⟨#[]⟩ : ByteArray), bt492.2.2)))
theorem ferruleref01_TakeNums.mono_l : ∀ k, (∀ y0 y1 y2, LeO (ferruleref01_TakeNums.j0 k y0 y1 y2) (ferruleref01_TakeNums.j0 (k + 1) y0 y1 y2)) ∧ (∀ y0 y1 y2 y3, LeO (ferruleref01_TakeNums.l0 k y0 y1 y2 y3) (ferruleref01_TakeNums.l0 (k + 1) y0 y1 y2 y3))
  | 0 => ⟨fun _ _ _ r h => by simp [ferruleref01_TakeNums.j0] at h, fun _ _ _ _ r h => by simp [ferruleref01_TakeNums.l0] at h⟩
  | k + 1 => by
    obtain ⟨ih0, ih1⟩ := ferruleref01_TakeNums.mono_l k
    refine ⟨?_, ?_⟩
    · intro y0 y1 y2
      unfold ferruleref01_TakeNums.j0
      repeat' first
      | (with_reducible exact ih0 _ _ _)
      | (with_reducible exact ih1 _ _ _ _)
      | (with_reducible exact ferruleref01_TakeNum.mono _ _)
      | (with_reducible exact LeO.refl _)
      | (with_reducible exact LeO.none _)
      | (with_reducible refine LeO.ite ?_ ?_)
      | (with_reducible refine LeO.bind ?_ (fun _ => ?_))
      | exact ih0 _ _ _
      | exact ih1 _ _ _ _
      | exact ferruleref01_TakeNum.mono _ _
      | exact LeO.none _
      | refine LeO.ite ?_ ?_
      | refine LeO.bind ?_ (fun _ => ?_)
    · intro y0 y1 y2 y3
      unfold ferruleref01_TakeNums.l0
      repeat' first
      | (with_reducible exact ih0 _ _ _)
      | (with_reducible exact ih1 _ _ _ _)
      | (with_reducible exact ferruleref01_TakeNum.mono _ _)
      | (with_reducible exact LeO.refl _)
      | (with_reducible exact LeO.none _)
      | (with_reducible refine LeO.ite ?_ ?_)
      | (with_reducible refine LeO.bind ?_ (fun _ => ?_))
      | exact ih0 _ _ _
      | exact ih1 _ _ _ _
      | exact ferruleref01_TakeNum.mono _ _
      | exact LeO.none _
      | refine LeO.ite ?_ ?_
      | refine LeO.bind ?_ (fun _ => ?_)
theorem ferruleref01_TakeNums.mono : ∀ a0 a1 k, LeO (ferruleref01_TakeNums.f k a0 a1) (ferruleref01_TakeNums.f (k + 1) a0 a1) := by
  intro a0 a1 k
  obtain ⟨ih0, ih1⟩ := ferruleref01_TakeNums.mono_l k
  unfold ferruleref01_TakeNums.f
  repeat' first
      | (with_reducible exact ih0 _ _ _)
      | (with_reducible exact ih1 _ _ _ _)
      | (with_reducible exact ferruleref01_TakeNum.mono _ _)
      | (with_reducible exact LeO.refl _)
      | (with_reducible exact LeO.none _)
      | (with_reducible refine LeO.ite ?_ ?_)
      | (with_reducible refine LeO.bind ?_ (fun _ => ?_))
      | exact ih0 _ _ _
      | exact ih1 _ _ _ _
      | exact ferruleref01_TakeNum.mono _ _
      | exact LeO.none _
      | refine LeO.ite ?_ ?_
      | refine LeO.bind ?_ (fun _ => ?_)
set_option maxHeartbeats 8000000 in
set_option maxRecDepth 100000 in
theorem ferruleref01_TakeNums.calls (k : Nat) (a0 : ByteArray) (a1 : Int) (r1 : List Int) (r2 : ByteArray) (r3 : Int) (w : World) (h : ferruleref01_TakeNums.f k a0 a1 = some (r1, r2, r3)) :
    Calls Try.prog 74 #[.string a0, .int .i64 a1] w fun e w' => ∃ v0_ : Value, e = .returned (.tuple #[v0_, .string r2, .int .i64 r3]) ∧ Kd.R (Kd.int .u64) 25 w' w.heap.size (fun _ => True) v0_ r1 ∧ Below w.heap.size w w' := by
  have HB := Aside0.mk (Below.refl w.heap.size w)
  have H : ((ferruleref01_TakeNum.f k a0).bind fun bt492 => (if bt492.2.2 = 0 then (if a1 < 0 then (ferruleref01_TakeNums.j0 k bt492.1 bt492.2.1 true) else (ferruleref01_TakeNums.j0 k bt492.1 bt492.2.1 (decide (bt492.1 > (IntKind.u64.wrap (a1)))))) else (some (([] : List Int), (⟨#[]⟩ : ByteArray), bt492.2.2)))) = some (r1, r2, r3) := h
  clear h
  replace H := Option.bind_eq_some_iff.mp H
  obtain ⟨⟨t492, t493, t494⟩, A30, H⟩ := H
  replace H : (if t494 = 0 then (if a1 < 0 then (ferruleref01_TakeNums.j0 k t492 t493 true) else (ferruleref01_TakeNums.j0 k t492 t493 (decide (t492 > (IntKind.u64.wrap (a1)))))) else (some (([] : List Int), (⟨#[]⟩ : ByteArray), t494))) = some (r1, r2, r3) := H
  have A3 := Aside0.mk A30
  clear A30
  by_cases c4 : t494 = 0
  · rw [if_pos c4] at H
    have c4b0 : (t494 == 0) = true := beq_iff_eq.mpr c4
    have c4b1 : (t494 != 0) = false := bne_eq_false_iff_eq.mpr c4
    clear c4
    have HC5 := Aside0.mk H
    clear H
    go_enter Try.func74, Try.ntmps74
    go_upto_region 4 with (first | ((with_reducible refine gate_callee (f := 75) rfl ?_); refine goesL_ (some 17) rfl rfl Try.func75 (by kernel_rfl) rfl #[.string a0] rfl (by (try simp only [List.map_toArray, List.map_cons, List.map_nil]); first | done | rfl | (simp only [List.length_drop, List.length_take]; rfl)) ?_; (with_reducible refine (ferruleref01_TakeNum.calls k a0 t492 t493 t494 _ A3.out).mono ?_); rintro e w' ⟨rfl, ⟨nd, rfl⟩⟩; refine ⟨_, rfl, ?_⟩))
    (try simp only [Act.put, List.setIfInBounds_toArray, List.set_cons_zero, List.set_cons_succ])
    go_cut [31] (fun v31 wc => ∃ (kq : Nat) (x31_4 : Bool), v31 = .bool x31_4 ∧ Aside0 (ferruleref01_TakeNums.j0 kq t492 t493 x31_4 = some (r1, r2, r3)) ∧ Aside0 (kq ≤ k) ∧ Aside0 (Below w.heap.size w wc))
    case first =>
      have H := HC5.out
      clear HC5
      by_cases c6 : a1 < 0
      · rw [if_pos c6] at H
        have c6b0 : decide (a1 < 0) = true := decide_eq_true c6
        clear c6
        (first | rw [c6b0] | (simp only [i64_w, i32_w]; rw [c6b0]) | skip)
        have H' := Aside0.mk H
        clear H
        go_wp2
        go_meet
        case rel => exact ⟨_, (true), (by first | rfl | (simp; done) | (simp [*]; done)), H', ⟨by first | omega | exact Nat.le_refl _⟩, ⟨by repeat (first | (with_reducible first | exact HB.out | apply below_alloc | apply pw_below_drewN | apply below_drew1) | exact HB.out)⟩⟩
      · rw [if_neg c6] at H
        have c6b0 : decide (a1 < 0) = false := decide_eq_false c6
        clear c6
        (first | rw [c6b0] | (simp only [i64_w, i32_w]; rw [c6b0]) | skip)
        have H' := Aside0.mk H
        clear H
        go_wp2
        go_meet
        case rel => exact ⟨_, (decide (t492 > (IntKind.u64.wrap (a1)))), (by first | rfl | (simp; done) | (simp [*]; done)), H', ⟨by first | omega | exact Nat.le_refl _⟩, ⟨by repeat (first | (with_reducible first | exact HB.out | apply below_alloc | apply pw_below_drewN | apply below_drew1) | exact HB.out)⟩⟩
    case rest =>
      clear HC5
      try clear p2
      try clear c4
      try clear c4b0
      try clear c4b1
      try clear c6
      try clear c6b0
      obtain ⟨kq, x31_4, rfl, HA, HJ4, HB⟩ := hcut
      cases kq with
      | zero => exact absurd HA.out (by simp [ferruleref01_TakeNums.j0])
      | succ kj4 =>
        have H := HA.out
        clear HA
        simp only [ferruleref01_TakeNums.j0] at H
        by_cases c7 : x31_4 = true
        · subst c7
          have H1 : (some (([] : List Int), (⟨#[]⟩ : ByteArray), 4)) = some (r1, r2, r3) := by rw [if_pos rfl] at H; exact H
          clear H
          have H := H1
          clear H1
          simp only [Option.some.injEq, Prod.mk.injEq] at H
          obtain ⟨rfl, rfl, rfl⟩ := H
          go_wp2
          go_ret3
          exact ⟨_, by first | rfl | (simp [errW_none, errW_some] <;> rfl) | (simp [*, errW_none, errW_some] <;> rfl), by first | exact Kd.R_nil _ _ _ _ _ | exact Kd.N_nil _ _ _ _ _ | exact Kd.V_nil _ _ _ _ _ | exact Kd.Q_nil _ _ _ _ _ | exact Kd.S_nil _ _ _ _ _, by repeat (first | (with_reducible first | exact HB.out | apply below_alloc | apply pw_below_drewN | apply below_drew1) | exact HB.out)⟩
        · replace c7 := Bool.eq_false_iff.mpr c7
          subst c7
          have H1 : (ferruleref01_TakeNums.l0 kj4 t492 t493 ([] : List Int) 0) = some (r1, r2, r3) := by rw [if_neg (show ¬ (false = true) by decide)] at H; exact H
          clear H
          have H := H1
          clear H1
          have H' := Aside0.mk H
          clear H
          go_wp2
          go_loopg [8, 10, 11] kj4 (fun kq v8 v10 v11 w' => ∃ (x8_2 : ByteArray) (x10_2 : List Int) (x11_2 : Int), v8 = .string x8_2 ∧ v11 = .int .u64 x11_2 ∧ Aside0 (ferruleref01_TakeNums.l0 kq t492 x8_2 x10_2 x11_2 = some (r1, r2, r3)) ∧ Aside0 (kq ≤ kj4) ∧ Aside0 (Kd.R (Kd.int .u64) 25 w' w.heap.size (fun _ => True) v10 x10_2) ∧ Aside0 (Below w.heap.size w w'))
          case atStart => exact ⟨(t493), (([] : List Int)), (0), (by first | rfl | (simp; done) | (simp [*]; done)), (by first | rfl | (simp; done) | (simp [*]; done)), H', ⟨Nat.le_refl _⟩, ⟨by first | exact Kd.R_nil _ _ _ _ _ | exact Kd.N_nil _ _ _ _ _ | exact Kd.V_nil _ _ _ _ _ | exact Kd.Q_nil _ _ _ _ _ | exact Kd.S_nil _ _ _ _ _⟩, ⟨by repeat (first | (with_reducible first | exact HB.out | apply below_alloc | apply pw_below_drewN | apply below_drew1) | exact HB.out)⟩⟩
          case round =>
            clear H'
            try clear p2
            try clear c4
            try clear c4b0
            try clear c4b1
            try clear c6
            try clear c6b0
            try clear c7
            try clear p2
            obtain ⟨x8_2, x10_2, x11_2, rfl, rfl, HA, HK2, HO_10, HB⟩ := hrel
            cases gk with
            | zero => exact absurd HA.out (by simp [ferruleref01_TakeNums.l0])
            | succ k2 =>
              have H := HA.out
              clear HA
              simp only [ferruleref01_TakeNums.l0] at H
              by_cases c8 : x11_2 < t492
              · rw [if_pos c8] at H
                have c8b0 : decide (x11_2 < t492) = true := decide_eq_true c8
                clear c8
                replace H := Option.bind_eq_some_iff.mp H
                obtain ⟨⟨t495, t496, t497⟩, A90, H⟩ := H
                replace H : (if t497 = 0 then (if x10_2.length < 17592186044416 then (ferruleref01_TakeNums.l0 k2 t492 t496 (x10_2 ++ [t495]) (IntKind.u64.wrap (x11_2 + 1))) else (none)) else (some (([] : List Int), (⟨#[]⟩ : ByteArray), t497))) = some (r1, r2, r3) := H
                have A9 := Aside0.mk A90
                clear A90
                by_cases c10 : t497 = 0
                · rw [if_pos c10] at H
                  have c10b0 : (t497 == 0) = true := beq_iff_eq.mpr c10
                  have c10b1 : (t497 != 0) = false := bne_eq_false_iff_eq.mpr c10
                  clear c10
                  by_cases c11 : x10_2.length < 17592186044416
                  · rw [if_pos c11] at H
                    have LMc11 := Aside0.mk c11
                    clear c11
                    obtain ⟨y498, hy498⟩ : ∃ y_ : List Int, y_ = (x10_2 ++ [t495]) := ⟨_, rfl⟩
                    replace H : (ferruleref01_TakeNums.l0 k2 t492 t496 y498 (IntKind.u64.wrap (x11_2 + 1))) = some (r1, r2, r3) := by first | (rw [hy498]; with_reducible exact H) | (have H2_ := (Option.bind_some _ _).symm.trans H; rw [hy498]; with_reducible exact H2_) | (have H2_ := (Option.bind_some _ _).symm.trans H; with_reducible exact H2_) | with_reducible exact H | (rw [hy498]; exact H) | exact H
                    have Ny498 := Aside0.mk hy498
                    clear hy498
                    have H' := Aside0.mk H
                    clear H
                    go_wp2_with (first | ((with_reducible refine gate_callee (f := 75) rfl ?_); refine goesL_ (some 39) rfl rfl Try.func75 (by kernel_rfl) rfl #[.string x8_2] rfl (by (try simp only [List.map_toArray, List.map_cons, List.map_nil]); first | done | rfl | (simp only [List.length_drop, List.length_take]; rfl)) ?_; (with_reducible refine (ferruleref01_TakeNum.calls k2 x8_2 t495 t496 t497 _ A9.out).mono ?_); rintro e w' ⟨rfl, ⟨nd, rfl⟩⟩; refine ⟨_, rfl, ?_⟩) | ((with_reducible refine gate_builtin (b := .append) (xs := #[.tmp 46, .tmp 48]) rfl ?_); at_builtin; refine Kd.R_append (Kd.int .u64) (w0 := w) w.heap.size rfl (.tmp 46) (.tmp 48) 79 25 (.int .u64 0) 8 rfl Try.underlying79 info25 rfl (by decide) (by omega) u10 x10_2 t495 [.int .u64 t495] (fun _ => True) (fun _ => False) rfl rfl ?aP (fun _ hk => hk.elim) ?aF ?aO ?aB ?aS ?aL ?_; (case aP => exact rfl); (case aB => exact (by repeat (first | (with_reducible first | exact HB.out | apply below_alloc | apply pw_below_drewN | apply below_drew1) | exact HB.out))); (case aF => exact (fun _ _ => trivial)); (case aO => exact (by (with_reducible repeat (first | apply Kd.R_alloc | apply Kd.R_drewN | apply Kd.R_drew)); exact HO_10.out)); (case aS => exact (below_size (by repeat (first | (with_reducible first | exact HB.out | apply below_alloc | apply pw_below_drewN | apply below_drew1) | exact HB.out)))); (case aL => have := LMc11.out; omega); intro v499 w12 ho hb hg hat; rw [← Ny498.out] at ho; have n0_ := Aside0.mk (hb); have n1_ := Aside0.mk (ho); clear HB; clear HO_10; have HB := n0_; have HO500 := n1_; clear n0_ n1_; clear ho hb hg hat))
                    go_roundg k2
                    case measure => have := HJ4.out; have := HK2.out; omega
                    case rel => exact ⟨(t496), (y498), (IntKind.u64.wrap (x11_2 + 1)), (by first | rfl | (simp; done) | (simp [*]; done)), (by first | rfl | (simp; done) | (simp [*]; done)), H', ⟨by have := HJ4.out; have := HK2.out; omega⟩, ⟨by (with_reducible repeat (first | apply Kd.R_alloc | apply Kd.R_drewN | apply Kd.R_drew)); exact HO500.out⟩, ⟨by repeat (first | (with_reducible first | exact HB.out | apply below_alloc | apply pw_below_drewN | apply below_drew1) | exact HB.out)⟩⟩
                  · rw [if_neg c11] at H
                    exact absurd H (by simp)
                · rw [if_neg c10] at H
                  have c10b0 : (t497 == 0) = false := beq_eq_false_iff_ne.mpr c10
                  have c10b1 : (t497 != 0) = true := bne_iff_ne.mpr c10
                  simp only [Option.some.injEq, Prod.mk.injEq] at H
                  obtain ⟨rfl, rfl, rfl⟩ := H
                  go_wp2_with (first | ((with_reducible refine gate_callee (f := 75) rfl ?_); refine goesL_ (some 39) rfl rfl Try.func75 (by kernel_rfl) rfl #[.string x8_2] rfl (by (try simp only [List.map_toArray, List.map_cons, List.map_nil]); first | done | rfl | (simp only [List.length_drop, List.length_take]; rfl)) ?_; (with_reducible refine (ferruleref01_TakeNum.calls k2 x8_2 t495 t496 t497 _ A9.out).mono ?_); rintro e w' ⟨rfl, ⟨nd, rfl⟩⟩; refine ⟨_, rfl, ?_⟩))
                  go_ret3
                  exact ⟨_, by first | rfl | (simp [errW_none, errW_some] <;> rfl) | (simp [*, errW_none, errW_some] <;> rfl), by first | exact Kd.R_nil _ _ _ _ _ | exact Kd.N_nil _ _ _ _ _ | exact Kd.V_nil _ _ _ _ _ | exact Kd.Q_nil _ _ _ _ _ | exact Kd.S_nil _ _ _ _ _, by repeat (first | (with_reducible first | exact HB.out | apply below_alloc | apply pw_below_drewN | apply below_drew1) | exact HB.out)⟩
              · rw [if_neg c8] at H
                have c8b0 : decide (x11_2 < t492) = false := decide_eq_false c8
                clear c8
                simp only [Option.some.injEq, Prod.mk.injEq] at H
                obtain ⟨rfl, rfl, rfl⟩ := H
                go_wp2
                go_ret3
                exact ⟨_, by first | rfl | (simp [errW_none, errW_some] <;> rfl) | (simp [*, errW_none, errW_some] <;> rfl), by (with_reducible repeat (first | apply Kd.R_alloc | apply Kd.R_drewN | apply Kd.R_drew)); exact HO_10.out, by repeat (first | (with_reducible first | exact HB.out | apply below_alloc | apply pw_below_drewN | apply below_drew1) | exact HB.out)⟩
  · rw [if_neg c4] at H
    have c4b0 : (t494 == 0) = false := beq_eq_false_iff_ne.mpr c4
    have c4b1 : (t494 != 0) = true := bne_iff_ne.mpr c4
    simp only [Option.some.injEq, Prod.mk.injEq] at H
    obtain ⟨rfl, rfl, rfl⟩ := H
    go_enter Try.func74, Try.ntmps74
    go_wp2_with (first | ((with_reducible refine gate_callee (f := 75) rfl ?_); refine goesL_ (some 17) rfl rfl Try.func75 (by kernel_rfl) rfl #[.string a0] rfl (by (try simp only [List.map_toArray, List.map_cons, List.map_nil]); first | done | rfl | (simp only [List.length_drop, List.length_take]; rfl)) ?_; (with_reducible refine (ferruleref01_TakeNum.calls k a0 t492 t493 t494 _ A3.out).mono ?_); rintro e w' ⟨rfl, ⟨nd, rfl⟩⟩; refine ⟨_, rfl, ?_⟩))
    go_ret3
    exact ⟨_, by first | rfl | (simp [errW_none, errW_some] <;> rfl) | (simp [*, errW_none, errW_some] <;> rfl), by first | exact Kd.R_nil _ _ _ _ _ | exact Kd.N_nil _ _ _ _ _ | exact Kd.V_nil _ _ _ _ _ | exact Kd.Q_nil _ _ _ _ _ | exact Kd.S_nil _ _ _ _ _, by repeat (first | (with_reducible first | exact HB.out | apply below_alloc | apply pw_below_drewN | apply below_drew1) | exact HB.out)⟩

end Go.Proofs.Ytfjhlcbpogihmaa.Pr
namespace Go.Proofs.Ytfjhlcbpogihmaa.Pr
open Go.RowKit Go.Proofs.YtfjhlcbpogihmaaW.PrintWords Go.Proofs.YtfjhlcbpogihmaaW.PrintLast Go.Proofs.YtfjhlcbpogihmaaW.PrintMore
attribute [local go_sem] max2_int min2_int max_two min_two max_three min_three max_four min_four   -- for this text's walks alone
set_option linter.unusedVariables false
set_option linter.unusedSimpArgs false

/-! ### pack_TakeText: function 93 -/
def pack_TakeText.f (k : Nat) (a0 : ByteArray) : Option (ByteArray × ByteArray × Int) := (pack_TakeNum.f k a0).bind fun bt535 => (if bt535.2.2 = 0 then (if bt535.1 > 4096 then (some ((⟨#[]⟩ : ByteArray), (⟨#[]⟩ : ByteArray), 4)) else (if bt535.1 > (IntKind.u64.wrap ((bt535.2.1.size : Int))) then (some ((⟨#[]⟩ : ByteArray), (⟨#[]⟩ : ByteArray), 2)) else (if 0 ≤ bt535.1 then (if bt535.1 ≤ (bt535.2.1.size : Int) then (some (bt535.2.1.extract 0 (bt535.1 : Int).toNat, bt535.2.1.extract (bt535.1 : Int).toNat bt535.2.1.size, 0)) else (none)) else (none)))) else (some ((⟨#[]⟩ : ByteArray), (⟨#[]⟩ : ByteArray), bt535.2.2)))
theorem pack_TakeText.mono : ∀ a0 k, LeO (pack_TakeText.f k a0) (pack_TakeText.f (k + 1) a0) := by
  intro a0 k
  unfold pack_TakeText.f
  repeat' first
      | (with_reducible exact pack_TakeNum.mono _ _)
      | (with_reducible exact LeO.refl _)
      | (with_reducible exact LeO.none _)
      | (with_reducible refine LeO.ite ?_ ?_)
      | (with_reducible refine LeO.bind ?_ (fun _ => ?_))
      | exact pack_TakeNum.mono _ _
      | exact LeO.none _
      | refine LeO.ite ?_ ?_
      | refine LeO.bind ?_ (fun _ => ?_)
set_option maxHeartbeats 8000000 in
set_option maxRecDepth 100000 in
theorem pack_TakeText.calls (k : Nat) (a0 : ByteArray) (r1 : ByteArray) (r2 : ByteArray) (r3 : Int) (w : World) (h : pack_TakeText.f k a0 = some (r1, r2, r3)) :
    Calls Try.prog 93 #[.string a0] w fun e w' => e = .returned (.tuple #[.string r1, .string r2, .int .i64 r3]) ∧ Drawn0 w w' := by
  have H : ((pack_TakeNum.f k a0).bind fun bt535 => (if bt535.2.2 = 0 then (if bt535.1 > 4096 then (some ((⟨#[]⟩ : ByteArray), (⟨#[]⟩ : ByteArray), 4)) else (if bt535.1 > (IntKind.u64.wrap ((bt535.2.1.size : Int))) then (some ((⟨#[]⟩ : ByteArray), (⟨#[]⟩ : ByteArray), 2)) else (if 0 ≤ bt535.1 then (if bt535.1 ≤ (bt535.2.1.size : Int) then (some (bt535.2.1.extract 0 (bt535.1 : Int).toNat, bt535.2.1.extract (bt535.1 : Int).toNat bt535.2.1.size, 0)) else (none)) else (none)))) else (some ((⟨#[]⟩ : ByteArray), (⟨#[]⟩ : ByteArray), bt535.2.2)))) = some (r1, r2, r3) := h
  clear h
  replace H := Option.bind_eq_some_iff.mp H
  obtain ⟨⟨t535, t536, t537⟩, A20, H⟩ := H
  replace H : (if t537 = 0 then (if t535 > 4096 then (some ((⟨#[]⟩ : ByteArray), (⟨#[]⟩ : ByteArray), 4)) else (if t535 > (IntKind.u64.wrap ((t536.size : Int))) then (some ((⟨#[]⟩ : ByteArray), (⟨#[]⟩ : ByteArray), 2)) else (if 0 ≤ t535 then (if t535 ≤ (t536.size : Int) then (some (t536.extract 0 (t535 : Int).toNat, t536.extract (t535 : Int).toNat t536.size, 0)) else (none)) else (none)))) else (some ((⟨#[]⟩ : ByteArray), (⟨#[]⟩ : ByteArray), t537))) = some (r1, r2, r3) := H
  have A2 := Aside0.mk A20
  clear A20
  by_cases c3 : t537 = 0
  · rw [if_pos c3] at H
    have c3b0 : (t537 == 0) = true := beq_iff_eq.mpr c3
    have c3b1 : (t537 != 0) = false := bne_eq_false_iff_eq.mpr c3
    clear c3
    by_cases c4 : t535 > 4096
    · rw [if_pos c4] at H
      have c4b0 : decide (4096 < t535) = true := decide_eq_true c4
      clear c4
      simp only [Option.some.injEq, Prod.mk.injEq] at H
      obtain ⟨rfl, rfl, rfl⟩ := H
      go_enter Try.func93, Try.ntmps93
      go_wp2_with (first | (go_at_call 92; (with_reducible refine (pack_TakeNum.calls k a0 t535 t536 t537 _ A2.out).mono ?_); rintro e w' ⟨rfl, ⟨nd, rfl⟩⟩; (try first | exact ⟨rfl, _, World.drewN_drewN _ _ _⟩ | exact ⟨rfl, _, Eq.trans (World.drewN_drewN _ _ _) (congrArg (World.drewN _) (Nat.add_assoc _ _ _))⟩)))
      repeat (go_quiet (first | (go_at_call 92; (with_reducible refine (pack_TakeNum.calls k a0 t535 t536 t537 _ A2.out).mono ?_); rintro e w' ⟨rfl, ⟨nd, rfl⟩⟩; (try first | exact ⟨rfl, _, World.drewN_drewN _ _ _⟩ | exact ⟨rfl, _, Eq.trans (World.drewN_drewN _ _ _) (congrArg (World.drewN _) (Nat.add_assoc _ _ _))⟩))); try go_wp2_with (first | (go_at_call 92; (with_reducible refine (pack_TakeNum.calls k a0 t535 t536 t537 _ A2.out).mono ?_); rintro e w' ⟨rfl, ⟨nd, rfl⟩⟩; (try first | exact ⟨rfl, _, World.drewN_drewN _ _ _⟩ | exact ⟨rfl, _, Eq.trans (World.drewN_drewN _ _ _) (congrArg (World.drewN _) (Nat.add_assoc _ _ _))⟩))))
      go_ret3
      exact ⟨by first | rfl | (simp; done) | (simp [*]; done), by repeat (first | exact Drawn0.refl _ | apply Drawn0.step)⟩
    · rw [if_neg c4] at H
      have c4b0 : decide (4096 < t535) = false := decide_eq_false c4
      clear c4
      by_cases c5 : t535 > (IntKind.u64.wrap ((t536.size : Int)))
      · rw [if_pos c5] at H
        have c5b0 : decide ((IntKind.u64.wrap ((t536.size : Int))) < t535) = true := decide_eq_true c5
        clear c5
        simp only [Option.some.injEq, Prod.mk.injEq] at H
        obtain ⟨rfl, rfl, rfl⟩ := H
        go_enter Try.func93, Try.ntmps93
        go_wp2_with (first | (go_at_call 92; (with_reducible refine (pack_TakeNum.calls k a0 t535 t536 t537 _ A2.out).mono ?_); rintro e w' ⟨rfl, ⟨nd, rfl⟩⟩; (try first | exact ⟨rfl, _, World.drewN_drewN _ _ _⟩ | exact ⟨rfl, _, Eq.trans (World.drewN_drewN _ _ _) (congrArg (World.drewN _) (Nat.add_assoc _ _ _))⟩)))
        repeat (go_quiet (first | (go_at_call 92; (with_reducible refine (pack_TakeNum.calls k a0 t535 t536 t537 _ A2.out).mono ?_); rintro e w' ⟨rfl, ⟨nd, rfl⟩⟩; (try first | exact ⟨rfl, _, World.drewN_drewN _ _ _⟩ | exact ⟨rfl, _, Eq.trans (World.drewN_drewN _ _ _) (congrArg (World.drewN _) (Nat.add_assoc _ _ _))⟩))); try go_wp2_with (first | (go_at_call 92; (with_reducible refine (pack_TakeNum.calls k a0 t535 t536 t537 _ A2.out).mono ?_); rintro e w' ⟨rfl, ⟨nd, rfl⟩⟩; (try first | exact ⟨rfl, _, World.drewN_drewN _ _ _⟩ | exact ⟨rfl, _, Eq.trans (World.drewN_drewN _ _ _) (congrArg (World.drewN _) (Nat.add_assoc _ _ _))⟩))))
        go_ret3
        exact ⟨by first | rfl | (simp; done) | (simp [*]; done), by repeat (first | exact Drawn0.refl _ | apply Drawn0.step)⟩
      · rw [if_neg c5] at H
        have c5b0 : decide ((IntKind.u64.wrap ((t536.size : Int))) < t535) = false := decide_eq_false c5
        clear c5
        by_cases c6 : 0 ≤ t535
        · rw [if_pos c6] at H
          have c6b0 := eq_true c6
          have c6b1 : decide (0 ≤ t535) = true := decide_eq_true c6
          clear c6
          by_cases c7 : t535 ≤ (t536.size : Int)
          · rw [if_pos c7] at H
            have c7b0 := eq_true c7
            have c7b1 : decide (t535 ≤ (t536.size : Int)) = true := decide_eq_true c7
            clear c7
            have c8b0 := eq_true (of_decide_eq_true (by first | (with_reducible assumption) | assumption) : 0 ≤ t535)
            have c9b0 := eq_true (of_decide_eq_true (by first | (with_reducible assumption) | assumption) : t535 ≤ (t536.size : Int))
            simp only [Option.some.injEq, Prod.mk.injEq] at H
            obtain ⟨rfl, rfl, rfl⟩ := H
            go_enter Try.func93, Try.ntmps93
            go_wp2_with (first | (go_at_call 92; (with_reducible refine (pack_TakeNum.calls k a0 t535 t536 t537 _ A2.out).mono ?_); rintro e w' ⟨rfl, ⟨nd, rfl⟩⟩; (try first | exact ⟨rfl, _, World.drewN_drewN _ _ _⟩ | exact ⟨rfl, _, Eq.trans (World.drewN_drewN _ _ _) (congrArg (World.drewN _) (Nat.add_assoc _ _ _))⟩)))
            repeat (go_quiet (first | (go_at_call 92; (with_reducible refine (pack_TakeNum.calls k a0 t535 t536 t537 _ A2.out).mono ?_); rintro e w' ⟨rfl, ⟨nd, rfl⟩⟩; (try first | exact ⟨rfl, _, World.drewN_drewN _ _ _⟩ | exact ⟨rfl, _, Eq.trans (World.drewN_drewN _ _ _) (congrArg (World.drewN _) (Nat.add_assoc _ _ _))⟩))); try go_wp2_with (first | (go_at_call 92; (with_reducible refine (pack_TakeNum.calls k a0 t535 t536 t537 _ A2.out).mono ?_); rintro e w' ⟨rfl, ⟨nd, rfl⟩⟩; (try first | exact ⟨rfl, _, World.drewN_drewN _ _ _⟩ | exact ⟨rfl, _, Eq.trans (World.drewN_drewN _ _ _) (congrArg (World.drewN _) (Nat.add_assoc _ _ _))⟩))))
            go_ret3
            exact ⟨by first | rfl | (simp; done) | (simp [*]; done), by repeat (first | exact Drawn0.refl _ | apply Drawn0.step)⟩
          · rw [if_neg c7] at H
            exact absurd H (by simp)
        · rw [if_neg c6] at H
          exact absurd H (by simp)
  · rw [if_neg c3] at H
    have c3b0 : (t537 == 0) = false := beq_eq_false_iff_ne.mpr c3
    have c3b1 : (t537 != 0) = true := bne_iff_ne.mpr c3
    simp only [Option.some.injEq, Prod.mk.injEq] at H
    obtain ⟨rfl, rfl, rfl⟩ := H
    go_enter Try.func93, Try.ntmps93
    go_wp2_with (first | (go_at_call 92; (with_reducible refine (pack_TakeNum.calls k a0 t535 t536 t537 _ A2.out).mono ?_); rintro e w' ⟨rfl, ⟨nd, rfl⟩⟩; (try first | exact ⟨rfl, _, World.drewN_drewN _ _ _⟩ | exact ⟨rfl, _, Eq.trans (World.drewN_drewN _ _ _) (congrArg (World.drewN _) (Nat.add_assoc _ _ _))⟩)))
    repeat (go_quiet (first | (go_at_call 92; (with_reducible refine (pack_TakeNum.calls k a0 t535 t536 t537 _ A2.out).mono ?_); rintro e w' ⟨rfl, ⟨nd, rfl⟩⟩; (try first | exact ⟨rfl, _, World.drewN_drewN _ _ _⟩ | exact ⟨rfl, _, Eq.trans (World.drewN_drewN _ _ _) (congrArg (World.drewN _) (Nat.add_assoc _ _ _))⟩))); try go_wp2_with (first | (go_at_call 92; (with_reducible refine (pack_TakeNum.calls k a0 t535 t536 t537 _ A2.out).mono ?_); rintro e w' ⟨rfl, ⟨nd, rfl⟩⟩; (try first | exact ⟨rfl, _, World.drewN_drewN _ _ _⟩ | exact ⟨rfl, _, Eq.trans (World.drewN_drewN _ _ _) (congrArg (World.drewN _) (Nat.add_assoc _ _ _))⟩))))
    go_ret3
    exact ⟨by first | rfl | (simp; done) | (simp [*]; done), by repeat (first | exact Drawn0.refl _ | apply Drawn0.step)⟩

end Go.Proofs.Ytfjhlcbpogihmaa.Pr
namespace Go.Proofs.Ytfjhlcbpogihmaa.Pr
open Go.RowKit Go.Proofs.YtfjhlcbpogihmaaW.PrintWords Go.Proofs.YtfjhlcbpogihmaaW.PrintLast Go.Proofs.YtfjhlcbpogihmaaW.PrintMore
attribute [local go_sem] max2_int min2_int max_two min_two max_three min_three max_four min_four   -- for this text's walks alone
set_option linter.unusedVariables false
set_option linter.unusedSimpArgs false

/-! ### ferruleref01_TakeText: function 76 -/
def ferruleref01_TakeText.f (k : Nat) (a0 : ByteArray) : Option (ByteArray × ByteArray × Int) := (ferruleref01_TakeNum.f k a0).bind fun bt590 => (if bt590.2.2 = 0 then (if bt590.1 > 4096 then (some ((⟨#[]⟩ : ByteArray), (⟨#[]⟩ : ByteArray), 4)) else (if bt590.1 > (IntKind.u64.wrap ((bt590.2.1.size : Int))) then (some ((⟨#[]⟩ : ByteArray), (⟨#[]⟩ : ByteArray), 2)) else (if 0 ≤ bt590.1 then (if bt590.1 ≤ (bt590.2.1.size : Int) then (some (bt590.2.1.extract 0 (bt590.1 : Int).toNat, bt590.2.1.extract (bt590.1 : Int).toNat bt590.2.1.size, 0)) else (none)) else (none)))) else (some ((⟨#[]⟩ : ByteArray), (⟨#[]⟩ : ByteArray), bt590.2.2)))
theorem ferruleref01_TakeText.mono : ∀ a0 k, LeO (ferruleref01_TakeText.f k a0) (ferruleref01_TakeText.f (k + 1) a0) := by
  intro a0 k
  unfold ferruleref01_TakeText.f
  repeat' first
      | (with_reducible exact ferruleref01_TakeNum.mono _ _)
      | (with_reducible exact LeO.refl _)
      | (with_reducible exact LeO.none _)
      | (with_reducible refine LeO.ite ?_ ?_)
      | (with_reducible refine LeO.bind ?_ (fun _ => ?_))
      | exact ferruleref01_TakeNum.mono _ _
      | exact LeO.none _
      | refine LeO.ite ?_ ?_
      | refine LeO.bind ?_ (fun _ => ?_)
set_option maxHeartbeats 8000000 in
set_option maxRecDepth 100000 in
theorem ferruleref01_TakeText.calls (k : Nat) (a0 : ByteArray) (r1 : ByteArray) (r2 : ByteArray) (r3 : Int) (w : World) (h : ferruleref01_TakeText.f k a0 = some (r1, r2, r3)) :
    Calls Try.prog 76 #[.string a0] w fun e w' => e = .returned (.tuple #[.string r1, .string r2, .int .i64 r3]) ∧ Drawn0 w w' := by
  have H : ((ferruleref01_TakeNum.f k a0).bind fun bt590 => (if bt590.2.2 = 0 then (if bt590.1 > 4096 then (some ((⟨#[]⟩ : ByteArray), (⟨#[]⟩ : ByteArray), 4)) else (if bt590.1 > (IntKind.u64.wrap ((bt590.2.1.size : Int))) then (some ((⟨#[]⟩ : ByteArray), (⟨#[]⟩ : ByteArray), 2)) else (if 0 ≤ bt590.1 then (if bt590.1 ≤ (bt590.2.1.size : Int) then (some (bt590.2.1.extract 0 (bt590.1 : Int).toNat, bt590.2.1.extract (bt590.1 : Int).toNat bt590.2.1.size, 0)) else (none)) else (none)))) else (some ((⟨#[]⟩ : ByteArray), (⟨#[]⟩ : ByteArray), bt590.2.2)))) = some (r1, r2, r3) := h
  clear h
  replace H := Option.bind_eq_some_iff.mp H
  obtain ⟨⟨t590, t591, t592⟩, A20, H⟩ := H
  replace H : (if t592 = 0 then (if t590 > 4096 then (some ((⟨#[]⟩ : ByteArray), (⟨#[]⟩ : ByteArray), 4)) else (if t590 > (IntKind.u64.wrap ((t591.size : Int))) then (some ((⟨#[]⟩ : ByteArray), (⟨#[]⟩ : ByteArray), 2)) else (if 0 ≤ t590 then (if t590 ≤ (t591.size : Int) then (some (t591.extract 0 (t590 : Int).toNat, t591.extract (t590 : Int).toNat t591.size, 0)) else (none)) else (none)))) else (some ((⟨#[]⟩ : ByteArray), (⟨#[]⟩ : ByteArray), t592))) = some (r1, r2, r3) := H
  have A2 := Aside0.mk A20
  clear A20
  by_cases c3 : t592 = 0
  · rw [if_pos c3] at H
    have c3b0 : (t592 == 0) = true := beq_iff_eq.mpr c3
    have c3b1 : (t592 != 0) = false := bne_eq_false_iff_eq.mpr c3
    clear c3
    by_cases c4 : t590 > 4096
    · rw [if_pos c4] at H
      have c4b0 : decide (4096 < t590) = true := decide_eq_true c4
      clear c4
      simp only [Option.some.injEq, Prod.mk.injEq] at H
      obtain ⟨rfl, rfl, rfl⟩ := H
      go_enter Try.func76, Try.ntmps76
      go_wp2_with (first | (go_at_call 75; (with_reducible refine (ferruleref01_TakeNum.calls k a0 t590 t591 t592 _ A2.out).mono ?_); rintro e w' ⟨rfl, ⟨nd, rfl⟩⟩; (try first | exact ⟨rfl, _, World.drewN_drewN _ _ _⟩ | exact ⟨rfl, _, Eq.trans (World.drewN_drewN _ _ _) (congrArg (World.drewN _) (Nat.add_assoc _ _ _))⟩)))
      repeat (go_quiet (first | (go_at_call 75; (with_reducible refine (ferruleref01_TakeNum.calls k a0 t590 t591 t592 _ A2.out).mono ?_); rintro e w' ⟨rfl, ⟨nd, rfl⟩⟩; (try first | exact ⟨rfl, _, World.drewN_drewN _ _ _⟩ | exact ⟨rfl, _, Eq.trans (World.drewN_drewN _ _ _) (congrArg (World.drewN _) (Nat.add_assoc _ _ _))⟩))); try go_wp2_with (first | (go_at_call 75; (with_reducible refine (ferruleref01_TakeNum.calls k a0 t590 t591 t592 _ A2.out).mono ?_); rintro e w' ⟨rfl, ⟨nd, rfl⟩⟩; (try first | exact ⟨rfl, _, World.drewN_drewN _ _ _⟩ | exact ⟨rfl, _, Eq.trans (World.drewN_drewN _ _ _) (congrArg (World.drewN _) (Nat.add_assoc _ _ _))⟩))))
      go_ret3
      exact ⟨by first | rfl | (simp; done) | (simp [*]; done), by repeat (first | exact Drawn0.refl _ | apply Drawn0.step)⟩
    · rw [if_neg c4] at H
      have c4b0 : decide (4096 < t590) = false := decide_eq_false c4
      clear c4
      by_cases c5 : t590 > (IntKind.u64.wrap ((t591.size : Int)))
      · rw [if_pos c5] at H
        have c5b0 : decide ((IntKind.u64.wrap ((t591.size : Int))) < t590) = true := decide_eq_true c5
        clear c5
        simp only [Option.some.injEq, Prod.mk.injEq] at H
        obtain ⟨rfl, rfl, rfl⟩ := H
        go_enter Try.func76, Try.ntmps76
        go_wp2_with (first | (go_at_call 75; (with_reducible refine (ferruleref01_TakeNum.calls k a0 t590 t591 t592 _ A2.out).mono ?_); rintro e w' ⟨rfl, ⟨nd, rfl⟩⟩; (try first | exact ⟨rfl, _, World.drewN_drewN _ _ _⟩ | exact ⟨rfl, _, Eq.trans (World.drewN_drewN _ _ _) (congrArg (World.drewN _) (Nat.add_assoc _ _ _))⟩)))
        repeat (go_quiet (first | (go_at_call 75; (with_reducible refine (ferruleref01_TakeNum.calls k a0 t590 t591 t592 _ A2.out).mono ?_); rintro e w' ⟨rfl, ⟨nd, rfl⟩⟩; (try first | exact ⟨rfl, _, World.drewN_drewN _ _ _⟩ | exact ⟨rfl, _, Eq.trans (World.drewN_drewN _ _ _) (congrArg (World.drewN _) (Nat.add_assoc _ _ _))⟩))); try go_wp2_with (first | (go_at_call 75; (with_reducible refine (ferruleref01_TakeNum.calls k a0 t590 t591 t592 _ A2.out).mono ?_); rintro e w' ⟨rfl, ⟨nd, rfl⟩⟩; (try first | exact ⟨rfl, _, World.drewN_drewN _ _ _⟩ | exact ⟨rfl, _, Eq.trans (World.drewN_drewN _ _ _) (congrArg (World.drewN _) (Nat.add_assoc _ _ _))⟩))))
        go_ret3
        exact ⟨by first | rfl | (simp; done) | (simp [*]; done), by repeat (first | exact Drawn0.refl _ | apply Drawn0.step)⟩
      · rw [if_neg c5] at H
        have c5b0 : decide ((IntKind.u64.wrap ((t591.size : Int))) < t590) = false := decide_eq_false c5
        clear c5
        by_cases c6 : 0 ≤ t590
        · rw [if_pos c6] at H
          have c6b0 := eq_true c6
          have c6b1 : decide (0 ≤ t590) = true := decide_eq_true c6
          clear c6
          by_cases c7 : t590 ≤ (t591.size : Int)
          · rw [if_pos c7] at H
            have c7b0 := eq_true c7
            have c7b1 : decide (t590 ≤ (t591.size : Int)) = true := decide_eq_true c7
            clear c7
            have c8b0 := eq_true (of_decide_eq_true (by first | (with_reducible assumption) | assumption) : 0 ≤ t590)
            have c9b0 := eq_true (of_decide_eq_true (by first | (with_reducible assumption) | assumption) : t590 ≤ (t591.size : Int))
            simp only [Option.some.injEq, Prod.mk.injEq] at H
            obtain ⟨rfl, rfl, rfl⟩ := H
            go_enter Try.func76, Try.ntmps76
            go_wp2_with (first | (go_at_call 75; (with_reducible refine (ferruleref01_TakeNum.calls k a0 t590 t591 t592 _ A2.out).mono ?_); rintro e w' ⟨rfl, ⟨nd, rfl⟩⟩; (try first | exact ⟨rfl, _, World.drewN_drewN _ _ _⟩ | exact ⟨rfl, _, Eq.trans (World.drewN_drewN _ _ _) (congrArg (World.drewN _) (Nat.add_assoc _ _ _))⟩)))
            repeat (go_quiet (first | (go_at_call 75; (with_reducible refine (ferruleref01_TakeNum.calls k a0 t590 t591 t592 _ A2.out).mono ?_); rintro e w' ⟨rfl, ⟨nd, rfl⟩⟩; (try first | exact ⟨rfl, _, World.drewN_drewN _ _ _⟩ | exact ⟨rfl, _, Eq.trans (World.drewN_drewN _ _ _) (congrArg (World.drewN _) (Nat.add_assoc _ _ _))⟩))); try go_wp2_with (first | (go_at_call 75; (with_reducible refine (ferruleref01_TakeNum.calls k a0 t590 t591 t592 _ A2.out).mono ?_); rintro e w' ⟨rfl, ⟨nd, rfl⟩⟩; (try first | exact ⟨rfl, _, World.drewN_drewN _ _ _⟩ | exact ⟨rfl, _, Eq.trans (World.drewN_drewN _ _ _) (congrArg (World.drewN _) (Nat.add_assoc _ _ _))⟩))))
            go_ret3
            exact ⟨by first | rfl | (simp; done) | (simp [*]; done), by repeat (first | exact Drawn0.refl _ | apply Drawn0.step)⟩
          · rw [if_neg c7] at H
            exact absurd H (by simp)
        · rw [if_neg c6] at H
          exact absurd H (by simp)
  · rw [if_neg c3] at H
    have c3b0 : (t592 == 0) = false := beq_eq_false_iff_ne.mpr c3
    have c3b1 : (t592 != 0) = true := bne_iff_ne.mpr c3
    simp only [Option.some.injEq, Prod.mk.injEq] at H
    obtain ⟨rfl, rfl, rfl⟩ := H
    go_enter Try.func76, Try.ntmps76
    go_wp2_with (first | (go_at_call 75; (with_reducible refine (ferruleref01_TakeNum.calls k a0 t590 t591 t592 _ A2.out).mono ?_); rintro e w' ⟨rfl, ⟨nd, rfl⟩⟩; (try first | exact ⟨rfl, _, World.drewN_drewN _ _ _⟩ | exact ⟨rfl, _, Eq.trans (World.drewN_drewN _ _ _) (congrArg (World.drewN _) (Nat.add_assoc _ _ _))⟩)))
    repeat (go_quiet (first | (go_at_call 75; (with_reducible refine (ferruleref01_TakeNum.calls k a0 t590 t591 t592 _ A2.out).mono ?_); rintro e w' ⟨rfl, ⟨nd, rfl⟩⟩; (try first | exact ⟨rfl, _, World.drewN_drewN _ _ _⟩ | exact ⟨rfl, _, Eq.trans (World.drewN_drewN _ _ _) (congrArg (World.drewN _) (Nat.add_assoc _ _ _))⟩))); try go_wp2_with (first | (go_at_call 75; (with_reducible refine (ferruleref01_TakeNum.calls k a0 t590 t591 t592 _ A2.out).mono ?_); rintro e w' ⟨rfl, ⟨nd, rfl⟩⟩; (try first | exact ⟨rfl, _, World.drewN_drewN _ _ _⟩ | exact ⟨rfl, _, Eq.trans (World.drewN_drewN _ _ _) (congrArg (World.drewN _) (Nat.add_assoc _ _ _))⟩))))
    go_ret3
    exact ⟨by first | rfl | (simp; done) | (simp [*]; done), by repeat (first | exact Drawn0.refl _ | apply Drawn0.step)⟩

end Go.Proofs.Ytfjhlcbpogihmaa.Pr
