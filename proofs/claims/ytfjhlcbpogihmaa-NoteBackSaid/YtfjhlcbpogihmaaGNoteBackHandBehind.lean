/- note.behind: what it computes, and that it does. Conditions: none. -/
import Derived.Test.YtfjhlcbpogihmaaKNoteBack3
import Derived.BigQuiet
namespace Go.Proofs.Ytfjhlcbpogihmaa.Pr
open Go.RowKit Go.Proofs.YtfjhlcbpogihmaaW.PrintWords Go.Proofs.YtfjhlcbpogihmaaW.PrintLast Go.Proofs.YtfjhlcbpogihmaaW.PrintMore
open Go.Proofs.Ytfjhlcbpogihmaa.Hnd
attribute [local go_sem] setCell_drewN_ alloc_drewN_
set_option linter.unusedVariables false
set_option linter.unusedSimpArgs false
theorem blk4 {w : World} {g : Nat} {t : TypeId} {a0 a1 a2 a3 : Value} (h : w.heap[g]? = some (.cells #[a0, a1, a2, a3] t (0, 0))) (b0 b1 b2 b3 : Value) :
    ((((w.setCell ⟨g, 0, none⟩ b0).setCell ⟨g, 1, none⟩ b1).setCell ⟨g, 2, none⟩ b2).setCell ⟨g, 3, none⟩ b3).heap[g]? = some (.cells #[b0, b1, b2, b3] t (0, 0)) := by
  have h0 := blk_put (cs' := #[b0, a1, a2, a3]) h 0 b0 rfl
  have h1 := blk_put (cs' := #[b0, b1, a2, a3]) h0 1 b1 rfl
  have h2 := blk_put (cs' := #[b0, b1, b2, a3]) h1 2 b2 rfl
  exact blk_put (cs' := #[b0, b1, b2, b3]) h2 3 b3 rfl
theorem below4 {w W : World} {g : Nat} (h : Below w.heap.size w W) (hg : w.heap.size ≤ g) (b0 b1 b2 b3 : Value) :
    Below w.heap.size w ((((W.setCell ⟨g, 0, none⟩ b0).setCell ⟨g, 1, none⟩ b1).setCell ⟨g, 2, none⟩ b2).setCell ⟨g, 3, none⟩ b3) := below_set (below_set (below_set (below_set h hg) hg) hg) hg
theorem r4 {w : World} {g base : Nat} {t : TypeId} {a0 a1 a2 a3 : Value} {ok : Nat → Prop} {v : Value} {xs : List S75} (hr : Kd.R k75 75 w base ok v xs) (h : w.heap[g]? = some (.cells #[a0, a1, a2, a3] t (0, 0))) (ht : ∀ q, q ∈ 75 :: k75.E → q ≠ t) (b0 b1 b2 b3 : Value) :
    Kd.R k75 75 ((((w.setCell ⟨g, 0, none⟩ b0).setCell ⟨g, 1, none⟩ b1).setCell ⟨g, 2, none⟩ b2).setCell ⟨g, 3, none⟩ b3) base ok v xs := by
  have h0 := blk_put (cs' := #[b0, a1, a2, a3]) h 0 b0 rfl
  have h1 := blk_put (cs' := #[b0, b1, a2, a3]) h0 1 b1 rfl
  have h2 := blk_put (cs' := #[b0, b1, b2, a3]) h1 2 b2 rfl
  exact Kd.R_set (Kd.R_set (Kd.R_set (Kd.R_set hr h ht 0 b0) h0 ht 1 b1) h1 ht 2 b2) h2 ht 3 b3
set_option maxHeartbeats 2000000 in
set_option maxRecDepth 100000 in
theorem note_behind.calls (s : NSt) (n : S39) (hs : okS s) (hn : okN n = true) (A : Option Addr) (c : Nat) (w : World) (hr : Kd.C k75 w A s.es.length s.es) (hc : s.es.length ≤ c) :
    Calls Try.prog 43 #[.agg #[.int .u64 s.base, .int .u64 s.bt, .string s.snap, .slice A s.es.length c], .agg #[.int .i64 n.f0, .int .u64 n.f1, .int .u64 n.f2, .int .u64 n.f3, .string n.f4]] w fun e w' =>
      ∃ v : Value, e = .returned (.agg #[.int .u64 (behindN s n).base, .int .u64 (behindN s n).bt, .string (behindN s n).snap, v]) ∧ Below w.heap.size w w' ∧ ((v = .slice A s.es.length c ∧ (behindN s n).es = s.es) ∨ Kd.R k75 75 w' w.heap.size (fun _ => True) v (behindN s n).es) := by
  obtain ⟨h0, h1⟩ := (okN_iff n).1 hn
  obtain ⟨b0, b1, l1⟩ := hs
  have HR := Aside0.mk hr
  have HC := Aside0.mk hc
  clear hn hr hc
  obtain ⟨term, vote, base, bt, snap, es⟩ := s
  obtain ⟨n0, n1, n2, n3, n4⟩ := n
  dsimp only at h0 h1 b0 b1 l1 HR HC ⊢
  by_cases hq : n1 ≤ base ∨ n1 > 1099511627776
  · have e1 : behindN ⟨term, vote, base, bt, snap, es⟩ ⟨n0, n1, n2, n3, n4⟩ = ⟨term, vote, base, bt, snap, es⟩ := if_pos hq
    rw [e1]
    by_cases hq1 : n1 ≤ base
    · have hb1 := decide_eq_true hq1
      clear hq hq1
      go_enter Try.func43, Try.ntmps43
      go_wp2_with fail
      refine bodyPost_ret (v := .agg #[.int .u64 base, .int .u64 bt, .string snap, .slice A es.length c]) (by simp [results, Try.results43, go_sem]) rfl ?_
      refine ⟨_, rfl, ?_, .inl ⟨rfl, trivial⟩⟩
      exact below_alloc (below_alloc (below_alloc (Below.refl _ _) _) _) _
    · have hb1 := decide_eq_false hq1
      have hb2 : decide (n1 > 1099511627776) = true := decide_eq_true (by omega)
      have hb3 : decide (1099511627776 < n1) = true := hb2
      clear hq hq1
      go_enter Try.func43, Try.ntmps43
      go_wp2_with fail
      refine bodyPost_ret (v := .agg #[.int .u64 base, .int .u64 bt, .string snap, .slice A es.length c]) (by simp [results, Try.results43, go_sem]) rfl ?_
      refine ⟨_, rfl, ?_, .inl ⟨rfl, trivial⟩⟩
      exact below_alloc (below_alloc (below_alloc (Below.refl _ _) _) _) _
  · have hq1 : ¬ n1 ≤ base := fun h => hq (.inl h)
    have hq2 : ¬ n1 > 1099511627776 := fun h => hq (.inr h)
    have e1 : behindN ⟨term, vote, base, bt, snap, es⟩ ⟨n0, n1, n2, n3, n4⟩ = ⟨term, vote, n1, n2, n4, if hasAt ⟨term, vote, base, bt, snap, es⟩ ⟨n0, n1, n2, n3, n4⟩ then es.drop (n1 - base).toNat else []⟩ := if_neg hq
    rw [e1]
    clear e1 hq
    have hb1 := decide_eq_false hq1
    have hb2 : decide (n1 > 1099511627776) = false := decide_eq_false hq2
    have hb3 : decide (1099511627776 < n1) = false := hb2
    obtain ⟨d, hd⟩ : ∃ d, n1 - base = d := ⟨_, rfl⟩
    have hw : IntKind.u64.wrap (n1 - base) = d := by rw [← hd]; simp [IntKind.wrap, IntKind.signed, IntKind.bits]; omega
    have hwl : IntKind.u64.wrap (es.length : Int) = (es.length : Int) := by simp [IntKind.wrap, IntKind.signed, IntKind.bits]; omega
    obtain ⟨x, hx⟩ : ∃ x, d - 1 = x := ⟨_, rfl⟩
    have hw1 : IntKind.u64.wrap (d - 1) = x := by rw [← hx]; simp [IntKind.wrap, IntKind.signed, IntKind.bits]; omega
    by_cases hk : d ≤ (es.length : Int)
    · have hkb := decide_eq_true hk
      obtain ⟨ad, rfl, q0, q1⟩ := at_T75 HR.out x (by omega) (by omega)
      have p2 := eq_true (show 0 ≤ x by omega)
      have p3 := eq_true (show x < (es.length : Int) by omega)
      have HD := Aside0.mk (show 1 ≤ d ∧ d ≤ (es.length : Int) from ⟨by omega, hk⟩)
      by_cases ht : (rd_T75 es x).f0 = n2
      · have e2 : (if hasAt ⟨term, vote, base, bt, snap, es⟩ ⟨n0, n1, n2, n3, n4⟩ then es.drop (n1 - base).toNat else []) = es.drop d.toNat := by
          rw [if_pos (show hasAt _ _ from ⟨by dsimp only; omega, by dsimp only; rw [hd, hx]; exact ht⟩), hd]
        rw [e2]
        have htb : ((rd_T75 es x).f0 == n2) = true := beq_iff_eq.mpr ht
        clear e2 hd hx hk hq1 hq2 ht
        go_enter Try.func43, Try.ntmps43
        go_wp2_with fail
        have k0 := blk_alloc (blk_alloc (blk_new w (.cells #[.int .u64 base, .int .u64 bt, .string snap, .slice (some ad) es.length c] 28)) (.cells #[.int .i64 n0, .int .u64 n1, .int .u64 n2, .int .u64 n3, .string n4] 39)) (.cells #[.int .u64 0, .int .u64 0, .string ⟨#[]⟩, .slice none 0 0] 28)
        have k1 := blk_alloc (blk_new (w.alloc (.cells #[.int .u64 base, .int .u64 bt, .string snap, .slice (some ad) es.length c] 28)) (.cells #[.int .i64 n0, .int .u64 n1, .int .u64 n2, .int .u64 n3, .string n4] 39)) (.cells #[.int .u64 0, .int .u64 0, .string ⟨#[]⟩, .slice none 0 0] 28)
        have k2 := blk_new ((w.alloc (.cells #[.int .u64 base, .int .u64 bt, .string snap, .slice (some ad) es.length c] 28)).alloc (.cells #[.int .i64 n0, .int .u64 n1, .int .u64 n2, .int .u64 n3, .string n4] 39)) (.cells #[.int .u64 0, .int .u64 0, .string ⟨#[]⟩, .slice none 0 0] 28)
        simp only [World.size_alloc] at k1 k2
        have HB := Aside0.mk (show Below w.heap.size w (((w.alloc (.cells #[.int .u64 base, .int .u64 bt, .string snap, .slice (some ad) es.length c] 28)).alloc (.cells #[.int .i64 n0, .int .u64 n1, .int .u64 n2, .int .u64 n3, .string n4] 39)).alloc (.cells #[.int .u64 0, .int .u64 0, .string ⟨#[]⟩, .slice none 0 0] 28)) from below_alloc (below_alloc (below_alloc (Below.refl _ _) _) _) _)
        generalize (((w.alloc (.cells #[.int .u64 base, .int .u64 bt, .string snap, .slice (some ad) es.length c] 28)).alloc (.cells #[.int .i64 n0, .int .u64 n1, .int .u64 n2, .int .u64 n3, .string n4] 39)).alloc (.cells #[.int .u64 0, .int .u64 0, .string ⟨#[]⟩, .slice none 0 0] 28)) = W0 at k0 k1 k2 HB ⊢
        have K0 := Aside0.mk k0
        have K1 := Aside0.mk k1
        have K2 := Aside0.mk k2
        have HR0 := Aside0.mk (Kd.C_below HR.out HB.out)
        have c3 := blk_cell k0 3
        have d1 := blk_cell k1 1
        have d2 := blk_cell k1 2
        have d4 := blk_cell k1 4
        replace q0 := (HB.out.cell (World.block_lt_of_cell? w _ q0)).trans q0
        replace q1 := (HB.out.cell (World.block_lt_of_cell? w _ q1)).trans q1
        clear k0 k1 k2
        go_quiet (fail)
        have k0 := blk_drewN K0.out nq
        have k1 := blk_drewN K1.out nq
        have k2 := blk_drewN K2.out nq
        have HB1 := Aside0.mk (pw_below_drewN HB.out nq)
        have HR1 := Aside0.mk (Kd.C_drewN HR0.out nq)
        generalize W0.drewN nq = W1 at k0 k1 k2 HB1 HR1 ⊢
        have c3 := blk_cell k0 3
        have d1 := blk_cell k1 1
        have d2 := blk_cell k1 2
        have d4 := blk_cell k1 4
        have f0 := blk_frozen k2 0
        have f1 := blk_frozen k2 1
        have f2 := blk_frozen k2 2
        have f3 := blk_frozen k2 3
        have z0 := blk_cell k2 0
        have z1 := blk_cell k2 1
        have z2 := blk_cell k2 2
        have z3 := blk_cell k2 3
        have zl := blk_lt k2
        have K1 := Aside0.mk k1
        have K2 := Aside0.mk k2
        clear k0 k1 k2 q0 q1 HB HR HR0
        have hsl := eq_true (show 0 ≤ d ∧ d ≤ (es.length : Int) from ⟨by have := HD.out; omega, HD.out.2⟩)
        have hdn : d.toNat ≤ es.length := by have := HD.out; omega
        have hC2 := Kd.C_drop (m := d.toNat) HR1.out hdn HC.out
        have hcall := slices_Clone.calls _ (c - d.toNat) (es.drop d.toNat) (es.drop d.toNat) W1 hC2 (by rw [List.length_drop]; have := HC.out; omega) (by unfold slices_Clone.f; rw [if_pos (by rw [List.length_drop]; omega)])
        rw [List.length_drop] at hcall
        by_cases hcd : c = d.toNat
        · rw [if_pos hcd, show c - d.toNat = 0 from by omega] at hcall
          have HCALL := Aside0.mk hcall
          have hcd2 := eq_true hcd
          clear hcall hC2 hdn
          go_wp2_with fail
          refine HCALL.out.mono ?_
          rintro e w2 ⟨v2, rfl, ho, hb⟩
          have k1 := blk_below K1.out hb
          have k2 := blk_below K2.out hb
          have HB2 := Aside0.mk (below_call HB1.out hb)
          have HO := Aside0.mk (Kd.R_lower ho HB1.out.size)
          have d1 := blk_cell k1 1
          have d2 := blk_cell k1 2
          have d4 := blk_cell k1 4
          have f0 := blk_frozen k2 0
          have f1 := blk_frozen k2 1
          have f2 := blk_frozen k2 2
          have f3 := blk_frozen k2 3
          have z0 := blk_cell k2 0
          have z1 := blk_cell k2 1
          have z2 := blk_cell k2 2
          have z3 := blk_cell k2 3
          have zl := blk_lt k2
          have K2 := Aside0.mk k2
          obtain ⟨A2, c2, e2⟩ := Kd.R_slice HO.out
          rw [List.length_drop] at e2
          subst e2
          clear k1 k2 ho hb
          go_wp2_with fail
          have bz := blk4 K2.out (.int .u64 n1) (.int .u64 n2) (.string n4) (.slice A2 (es.length - d.toNat) c2)
          have hBl := below4 (g := w.heap.size + 1 + 1) HB2.out (by omega) (.int .u64 n1) (.int .u64 n2) (.string n4) (.slice A2 (es.length - d.toNat) c2)
          have hO := r4 HO.out K2.out (by decide) (.int .u64 n1) (.int .u64 n2) (.string n4) (.slice A2 (es.length - d.toNat) c2)
          generalize ((((w2.setCell ⟨w.heap.size + 1 + 1, 0, none⟩ (.int .u64 n1)).setCell ⟨w.heap.size + 1 + 1, 1, none⟩ (.int .u64 n2)).setCell ⟨w.heap.size + 1 + 1, 2, none⟩ (.string n4)).setCell ⟨w.heap.size + 1 + 1, 3, none⟩ (.slice A2 (es.length - d.toNat) c2)) = W4 at bz hBl hO ⊢
          have y0 := blk_cell bz 0
          have y1 := blk_cell bz 1
          have y2 := blk_cell bz 2
          have y3 := blk_cell bz 3
          refine bodyPost_ret (v := .agg #[.int .u64 n1, .int .u64 n2, .string n4, .slice A2 (es.length - d.toNat) c2]) (by simp [results, Try.results43, go_sem, y0, y1, y2, y3]) rfl ?_
          exact ⟨_, rfl, hBl, .inr hO⟩
        · rw [if_neg hcd] at hcall
          have HCALL := Aside0.mk hcall
          have hcd2 := eq_false hcd
          clear hcall hC2 hdn
          go_wp2_with fail
          refine HCALL.out.mono ?_
          rintro e w2 ⟨v2, rfl, ho, hb⟩
          have k1 := blk_below K1.out hb
          have k2 := blk_below K2.out hb
          have HB2 := Aside0.mk (below_call HB1.out hb)
          have HO := Aside0.mk (Kd.R_lower ho HB1.out.size)
          have d1 := blk_cell k1 1
          have d2 := blk_cell k1 2
          have d4 := blk_cell k1 4
          have f0 := blk_frozen k2 0
          have f1 := blk_frozen k2 1
          have f2 := blk_frozen k2 2
          have f3 := blk_frozen k2 3
          have z0 := blk_cell k2 0
          have z1 := blk_cell k2 1
          have z2 := blk_cell k2 2
          have z3 := blk_cell k2 3
          have zl := blk_lt k2
          have K2 := Aside0.mk k2
          obtain ⟨A2, c2, e2⟩ := Kd.R_slice HO.out
          rw [List.length_drop] at e2
          subst e2
          clear k1 k2 ho hb
          go_wp2_with fail
          have bz := blk4 K2.out (.int .u64 n1) (.int .u64 n2) (.string n4) (.slice A2 (es.length - d.toNat) c2)
          have hBl := below4 (g := w.heap.size + 1 + 1) HB2.out (by omega) (.int .u64 n1) (.int .u64 n2) (.string n4) (.slice A2 (es.length - d.toNat) c2)
          have hO := r4 HO.out K2.out (by decide) (.int .u64 n1) (.int .u64 n2) (.string n4) (.slice A2 (es.length - d.toNat) c2)
          generalize ((((w2.setCell ⟨w.heap.size + 1 + 1, 0, none⟩ (.int .u64 n1)).setCell ⟨w.heap.size + 1 + 1, 1, none⟩ (.int .u64 n2)).setCell ⟨w.heap.size + 1 + 1, 2, none⟩ (.string n4)).setCell ⟨w.heap.size + 1 + 1, 3, none⟩ (.slice A2 (es.length - d.toNat) c2)) = W4 at bz hBl hO ⊢
          have y0 := blk_cell bz 0
          have y1 := blk_cell bz 1
          have y2 := blk_cell bz 2
          have y3 := blk_cell bz 3
          refine bodyPost_ret (v := .agg #[.int .u64 n1, .int .u64 n2, .string n4, .slice A2 (es.length - d.toNat) c2]) (by simp [results, Try.results43, go_sem, y0, y1, y2, y3]) rfl ?_
          exact ⟨_, rfl, hBl, .inr hO⟩
      · have e2 : (if hasAt ⟨term, vote, base, bt, snap, es⟩ ⟨n0, n1, n2, n3, n4⟩ then es.drop (n1 - base).toNat else []) = [] := by
          rw [if_neg (fun h : hasAt _ _ => ht (by have := h.2; dsimp only at this; rw [hd, hx] at this; exact this))]
        rw [e2]
        have htb : ((rd_T75 es x).f0 == n2) = false := beq_eq_false_iff_ne.mpr ht
        clear e2 hd hx hk hq1 hq2 ht
        go_enter Try.func43, Try.ntmps43
        go_wp2_with fail
        have k0 := blk_alloc (blk_alloc (blk_new w (.cells #[.int .u64 base, .int .u64 bt, .string snap, .slice (some ad) es.length c] 28)) (.cells #[.int .i64 n0, .int .u64 n1, .int .u64 n2, .int .u64 n3, .string n4] 39)) (.cells #[.int .u64 0, .int .u64 0, .string ⟨#[]⟩, .slice none 0 0] 28)
        have k1 := blk_alloc (blk_new (w.alloc (.cells #[.int .u64 base, .int .u64 bt, .string snap, .slice (some ad) es.length c] 28)) (.cells #[.int .i64 n0, .int .u64 n1, .int .u64 n2, .int .u64 n3, .string n4] 39)) (.cells #[.int .u64 0, .int .u64 0, .string ⟨#[]⟩, .slice none 0 0] 28)
        have k2 := blk_new ((w.alloc (.cells #[.int .u64 base, .int .u64 bt, .string snap, .slice (some ad) es.length c] 28)).alloc (.cells #[.int .i64 n0, .int .u64 n1, .int .u64 n2, .int .u64 n3, .string n4] 39)) (.cells #[.int .u64 0, .int .u64 0, .string ⟨#[]⟩, .slice none 0 0] 28)
        simp only [World.size_alloc] at k1 k2
        have HB := Aside0.mk (show Below w.heap.size w (((w.alloc (.cells #[.int .u64 base, .int .u64 bt, .string snap, .slice (some ad) es.length c] 28)).alloc (.cells #[.int .i64 n0, .int .u64 n1, .int .u64 n2, .int .u64 n3, .string n4] 39)).alloc (.cells #[.int .u64 0, .int .u64 0, .string ⟨#[]⟩, .slice none 0 0] 28)) from below_alloc (below_alloc (below_alloc (Below.refl _ _) _) _) _)
        generalize (((w.alloc (.cells #[.int .u64 base, .int .u64 bt, .string snap, .slice (some ad) es.length c] 28)).alloc (.cells #[.int .i64 n0, .int .u64 n1, .int .u64 n2, .int .u64 n3, .string n4] 39)).alloc (.cells #[.int .u64 0, .int .u64 0, .string ⟨#[]⟩, .slice none 0 0] 28)) = W0 at k0 k1 k2 HB ⊢
        have K0 := Aside0.mk k0
        have K1 := Aside0.mk k1
        have K2 := Aside0.mk k2
        have HR0 := Aside0.mk (Kd.C_below HR.out HB.out)
        have c3 := blk_cell k0 3
        have d1 := blk_cell k1 1
        have d2 := blk_cell k1 2
        have d4 := blk_cell k1 4
        replace q0 := (HB.out.cell (World.block_lt_of_cell? w _ q0)).trans q0
        replace q1 := (HB.out.cell (World.block_lt_of_cell? w _ q1)).trans q1
        clear k0 k1 k2
        go_quiet (fail)
        have k0 := blk_drewN K0.out nq
        have k1 := blk_drewN K1.out nq
        have k2 := blk_drewN K2.out nq
        have HB1 := Aside0.mk (pw_below_drewN HB.out nq)
        have HR1 := Aside0.mk (Kd.C_drewN HR0.out nq)
        generalize W0.drewN nq = W1 at k0 k1 k2 HB1 HR1 ⊢
        have c3 := blk_cell k0 3
        have d1 := blk_cell k1 1
        have d2 := blk_cell k1 2
        have d4 := blk_cell k1 4
        have f0 := blk_frozen k2 0
        have f1 := blk_frozen k2 1
        have f2 := blk_frozen k2 2
        have f3 := blk_frozen k2 3
        have z0 := blk_cell k2 0
        have z1 := blk_cell k2 1
        have z2 := blk_cell k2 2
        have z3 := blk_cell k2 3
        have zl := blk_lt k2
        have K1 := Aside0.mk k1
        have K2 := Aside0.mk k2
        clear k0 k1 k2 q0 q1 HB HR HR0
        go_wp2_with fail
        have bz := blk4 K2.out (.int .u64 n1) (.int .u64 n2) (.string n4) (.slice none 0 0)
        have hBl := below4 (g := w.heap.size + 1 + 1) HB1.out (by omega) (.int .u64 n1) (.int .u64 n2) (.string n4) (.slice none 0 0)
        generalize ((((W1.setCell ⟨w.heap.size + 1 + 1, 0, none⟩ (.int .u64 n1)).setCell ⟨w.heap.size + 1 + 1, 1, none⟩ (.int .u64 n2)).setCell ⟨w.heap.size + 1 + 1, 2, none⟩ (.string n4)).setCell ⟨w.heap.size + 1 + 1, 3, none⟩ (.slice none 0 0)) = W4 at bz hBl ⊢
        have y0 := blk_cell bz 0
        have y1 := blk_cell bz 1
        have y2 := blk_cell bz 2
        have y3 := blk_cell bz 3
        refine bodyPost_ret (v := .agg #[.int .u64 n1, .int .u64 n2, .string n4, .slice none 0 0]) (by simp [results, Try.results43, go_sem, y0, y1, y2, y3]) rfl ?_
        exact ⟨_, rfl, hBl, .inr (Kd.R_nil _ _ _ _ _)⟩
    · have hkb := decide_eq_false hk
      have e2 : (if hasAt ⟨term, vote, base, bt, snap, es⟩ ⟨n0, n1, n2, n3, n4⟩ then es.drop (n1 - base).toNat else []) = [] := by
        rw [if_neg (fun h : hasAt _ _ => hk (by have := h.1; dsimp only at this; omega))]
      rw [e2]
      clear e2 hd hx hk hq1 hq2
      go_enter Try.func43, Try.ntmps43
      go_wp2_with fail
      repeat (go_quiet (fail); try go_wp2_with fail)
      refine bodyPost_ret (v := .agg #[.int .u64 n1, .int .u64 n2, .string n4, .slice none 0 0]) (by simp [results, Try.results43, go_sem]) rfl ?_
      exact ⟨_, rfl, pw_below_drewN (below_alloc (below_alloc (below_alloc (Below.refl _ _) _) _) _) _, .inr (Kd.R_nil _ _ _ _ _)⟩
end Go.Proofs.Ytfjhlcbpogihmaa.Pr
