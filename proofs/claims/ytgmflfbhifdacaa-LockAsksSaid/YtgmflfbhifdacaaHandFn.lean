/- lock.of, Drop, Has, slices.Clone of holds: what they compute, and that they do. Conditions: none. -/
import Derived.Test.YtgmflfbhifdacaaHandDel
namespace Go.Proofs.Ytgmflfbhifdacaa.Pr
open Go.RowKit Go.Proofs.YtgmflfbhifdacaaW.PrintWords Go.Proofs.YtgmflfbhifdacaaW.PrintLast Go.Proofs.YtgmflfbhifdacaaW.PrintMore
open Go.Proofs.Ytgmflfbhifdacaa.Hnd
attribute [local go_sem] setCell_drewN_ alloc_drewN_
set_option linter.unusedVariables false
set_option linter.unusedSimpArgs false
theorem nil_eq22 (A : Option Addr) (n c : Nat) (w : World) : (binOp .eql 22 (.slice A n c) (.slice none 0 0)).run Try.prog w = .ok (.bool A.isNone) w := by
  cases A <;> kernel_rfl
attribute [local go_sem high] nil_eq22
def slices_Clone.f (l0 : List S40) : Option (List S40) := if l0.length < 3518437208883 then some l0 else none
set_option maxHeartbeats 1000000 in
set_option maxRecDepth 100000 in
theorem slices_Clone.calls (A0 : Option Addr) (c0 : Nat) (l0 : List S40) (r : List S40) (w : World) (hr0 : Kd.C k40 w A0 l0.length l0) (hc0 : l0.length ≤ c0) (h : slices_Clone.f l0 = some r) :
    Calls Try.prog 24 #[.slice A0 l0.length c0] w fun e w' => ∃ v0_ : Value, e = .returned (v0_) ∧ Kd.R k40 40 w' w.heap.size (fun _ => True) v0_ r ∧ Below w.heap.size w w' := by
  unfold slices_Clone.f at h
  by_cases hs : l0.length < 3518437208883
  rotate_left
  · rw [if_neg hs] at h; cases h
  rw [if_pos hs] at h
  obtain rfl := Option.some.inj h
  clear h
  have HS := Aside0.mk hs
  have HR := Aside0.mk hr0
  cases A0 with
  | none =>
    have h0 : l0 = [] := by
      by_cases hz : 0 < l0.length
      · obtain ⟨ad, ha, _⟩ := hr0.2.2 hz
        cases ha
      · exact List.eq_nil_of_length_eq_zero (by omega)
    subst h0
    clear hr0 hs
    go_enter Try.func24, Try.ntmps24
    go_wp2
    go_ret
    exact ⟨_, rfl, Kd.R_nil _ _ _ _ _, Below.refl _ _⟩
  | some ad =>
    clear hr0 hs
    go_enter Try.func24, Try.ntmps24
    go_wp2_with (first
      | ((with_reducible refine gate_dst (N := 5) rfl ?_); refine Kd.R_lit k40 (w0 := w) w.heap.size 40 ?hg (N := 5) ?hd (xs := ([] : List S40)) (inner := []) (ok := fun _ => True) (okp := fun _ => True) ?hr ?hp (fun _ hk => hk) trivial (Below.refl _ _) (Nat.le_refl _) (by simp) ?_; (case hd => rfl); (case hg => rfl); (case hr => first | (go_simp; done) | (go_simp; rfl)); (case hp => exact (Reps.none _ _)); intro v1 w1 ho hb hg_ hnew_; have HO := Aside0.mk ho; have HB := Aside0.mk hb; clear ho hb hg_ hnew_)
      | ((with_reducible refine gate_builtin (b := .append) (xs := #[.tmp 5, .tmp 6]) rfl ?_); (try (refine gate_guard (by rfl) ?_; dsimp only)); at_builtin; refine Kd.R_append_rows k40 (w0 := w) w.heap.size rfl (.tmp 5) (.tmp 6) 22 40 (.agg #[(.string ⟨#[]⟩), (.int .u64 0), (.int .u64 0), (.bool false)]) 40 rfl Try.underlying22 info40 rfl (by decide) (by omega) _ ([] : List S40) l0 _ _ _ (fun _ => True) (fun _ => False) rfl rfl ?aO ?aR (fun _ _ h => h) (fun _ h => h.elim) (fun _ _ => trivial) ?aB ?aS ?aL ?_; (case aR => exact Kd.C_below HR.out HB.out); (case aB => exact HB.out); (case aO => exact HO.out); (case aS => exact HB.out.size); (case aL => have := HS.out; simp only [List.length_nil]; omega); intro v2 w2 ho hb hg hat; have HO2 := Aside0.mk ho; have HB2 := Aside0.mk hb; clear ho hb hg hat))
    go_ret
    exact ⟨_, rfl, HO2.out, HB2.out⟩
def ofI (t : S25) (key : ByteArray) (l : List S40) : Int := idxN (p34 t key) l 0
def lock_of.f (l0 : List S40) (a1_0 a1_1 : Int) (a2 : ByteArray) : Option Int := some (ofI ⟨a1_0, a1_1⟩ a2 l0)
set_option maxHeartbeats 1000000 in
set_option maxRecDepth 100000 in
theorem lock_of.calls (A0 : Option Addr) (c0 : Nat) (l0 : List S40) (a1_0 a1_1 : Int) (a2 : ByteArray) (r : Int) (w : World) (hr0 : Kd.C k40 w A0 l0.length l0) (hc0 : l0.length ≤ c0) (h : lock_of.f l0 a1_0 a1_1 a2 = some r) :
    Calls Try.prog 23 #[.slice A0 l0.length c0, .agg #[.int .u64 a1_0, .int .u64 a1_1], .string a2] w fun e w' => e = .returned (.int .i64 r) ∧ Below w.heap.size w w' := by
  obtain rfl := Option.some.inj h
  unfold ofI
  have H := Aside0.mk (idx_34 A0 c0 l0 (p34 ⟨a1_0, a1_1⟩ a2) w.heap.size (w.heap.size + 1) (fun W => W.heap[w.heap.size]? = some (.cells #[.int .u64 a1_0, .int .u64 a1_1] 25 (0, 0)) ∧ W.heap[w.heap.size + 1]? = some (.cells #[.string a2] 9 (0, 0)))
    ((w.alloc (.cells #[.int .u64 a1_0, .int .u64 a1_1] 25)).alloc (.cells #[.string a2] 9)) (Kd.C_alloc (Kd.C_alloc hr0 _) _) hc0 ⟨blk_alloc (blk_new _ _) _, blk_newAt _ (by simp)⟩
    (fun W W' hj hb => ⟨blk_below hj.1 hb, blk_below hj.2 hb⟩) (fun x W _ hj => cl34 x ⟨a1_0, a1_1⟩ a2 _ _ W hj.1 hj.2))
  clear hr0 h
  go_enter Try.func23, Try.ntmps23
  go_wp2_with fail
  refine H.out.mono ?_
  rintro e w1 ⟨rfl, hb, _⟩
  have HB := Aside0.mk (below_call (below_alloc (below_alloc (Below.refl w.heap.size w) _) _) hb)
  clear hb H
  go_wp2
  go_ret
  exact ⟨rfl, HB.out⟩
def hasB (t : S25) (key : ByteArray) (write : Bool) (l : List S40) : Bool := decide (0 ≤ idxN (p31 t key write) l 0)
def lock_Has.f (l0 : List S40) (a1_0 a1_1 : Int) (a2 : ByteArray) (a3 : Bool) : Option Bool := some (hasB ⟨a1_0, a1_1⟩ a2 a3 l0)
set_option maxHeartbeats 1000000 in
set_option maxRecDepth 100000 in
theorem lock_Has.calls (A0 : Option Addr) (c0 : Nat) (l0 : List S40) (a1_0 a1_1 : Int) (a2 : ByteArray) (a3 : Bool) (r : Bool) (w : World) (hr0 : Kd.C k40 w A0 l0.length l0) (hc0 : l0.length ≤ c0) (h : lock_Has.f l0 a1_0 a1_1 a2 a3 = some r) :
    Calls Try.prog 17 #[.slice A0 l0.length c0, .agg #[.int .u64 a1_0, .int .u64 a1_1], .string a2, .bool a3] w fun e w' => e = .returned (.bool r) ∧ Below w.heap.size w w' := by
  obtain rfl := Option.some.inj h
  unfold hasB
  have H := Aside0.mk (idx_31 A0 c0 l0 (p31 ⟨a1_0, a1_1⟩ a2 a3) w.heap.size (w.heap.size + 1) (w.heap.size + 1 + 1) (fun W => W.heap[w.heap.size]? = some (.cells #[.int .u64 a1_0, .int .u64 a1_1] 25 (0, 0)) ∧ W.heap[w.heap.size + 1]? = some (.cells #[.string a2] 9 (0, 0)) ∧ W.heap[w.heap.size + 1 + 1]? = some (.cells #[.bool a3] 4 (0, 0)))
    (((w.alloc (.cells #[.int .u64 a1_0, .int .u64 a1_1] 25)).alloc (.cells #[.string a2] 9)).alloc (.cells #[.bool a3] 4)) (Kd.C_alloc (Kd.C_alloc (Kd.C_alloc hr0 _) _) _) hc0 ⟨blk_alloc (blk_alloc (blk_new _ _) _) _, blk_alloc (blk_newAt _ (by simp)) _, blk_newAt _ (by simp)⟩
    (fun W W' hj hb => ⟨blk_below hj.1 hb, blk_below hj.2.1 hb, blk_below hj.2.2 hb⟩) (fun x W _ hj => cl31 x ⟨a1_0, a1_1⟩ a2 a3 _ _ _ W hj.1 hj.2.1 hj.2.2))
  clear hr0 h
  obtain ⟨q, hq⟩ : ∃ q, idxN (p31 ⟨a1_0, a1_1⟩ a2 a3) l0 0 = q := ⟨_, rfl⟩
  rw [hq] at H ⊢
  clear hq
  go_enter Try.func17, Try.ntmps17
  go_wp2_with (first | (go_at_call 33; refine H.out.mono ?_; rintro e w1 ⟨rfl, hb, _⟩; have HB := Aside0.mk (below_call (below_alloc (below_alloc (below_alloc (Below.refl w.heap.size w) _) _) _) hb); clear hb H) | go_in)
  go_ret
  exact ⟨rfl, HB.out⟩
def lock_Drop.f (l0 : List S40) (a1_0 a1_1 : Int) : Option (List S40) := if l0.length < 3518437208883 then some (keepB (p29 ⟨a1_0, a1_1⟩) l0) else none
set_option maxHeartbeats 1000000 in
set_option maxRecDepth 100000 in
theorem lock_Drop.calls (A0 : Option Addr) (c0 : Nat) (l0 : List S40) (a1_0 a1_1 : Int) (r : List S40) (w : World) (hr0 : Kd.C k40 w A0 l0.length l0) (hc0 : l0.length ≤ c0) (h : lock_Drop.f l0 a1_0 a1_1 = some r) :
    Calls Try.prog 16 #[.slice A0 l0.length c0, .agg #[.int .u64 a1_0, .int .u64 a1_1]] w fun e w' => ∃ v0_ : Value, e = .returned (v0_) ∧ Kd.R k40 40 w' w.heap.size (fun _ => True) v0_ r ∧ Below w.heap.size w w' := by
  unfold lock_Drop.f at h
  by_cases hs : l0.length < 3518437208883
  rotate_left
  · rw [if_neg hs] at h; cases h
  rw [if_pos hs] at h
  obtain rfl := Option.some.inj h
  clear h
  have HC := Aside0.mk (slices_Clone.calls A0 c0 l0 l0 (w.alloc (.cells #[.int .u64 a1_0, .int .u64 a1_1] 25)) (Kd.C_alloc hr0 _) hc0 (by unfold slices_Clone.f; rw [if_pos hs]))
  clear hr0 hs
  go_enter Try.func16, Try.ntmps16
  go_wp2_with fail
  refine HC.out.mono ?_
  rintro e w1 ⟨v, rfl, ho, hb⟩
  have kt := blk_below (blk_new w (.cells #[.int .u64 a1_0, .int .u64 a1_1] 25)) hb
  have HB := Aside0.mk (below_call (below_alloc (Below.refl w.heap.size w) _) hb)
  have hz : w.heap.size < w1.heap.size := blk_lt kt
  by_cases hn : 0 < l0.length
  · obtain ⟨g, cap, rfl, hg1, hg2, _⟩ := Kd.R_form ho hn
    have hgn : ¬ (w.heap.size = g) := by simp at hg1; omega
    have HD := Aside0.mk (del_29 g cap l0 (p29 ⟨a1_0, a1_1⟩) w.heap.size (fun W => W.heap[w.heap.size]? = some (.cells #[.int .u64 a1_0, .int .u64 a1_1] 25 (0, 0))) _ _ w1 ho kt
      (fun W W' hj hb => blk_below hj hb) (fun W W' hj hg => blk_grown hj hg (by simpa using hgn)) (fun x W _ hj => cl29 x ⟨a1_0, a1_1⟩ _ W hj))
    have HG := Aside0.mk (show w.heap.size ≤ g by simp at hg1; omega)
    clear hb HC ho kt hg1 hgn
    go_wp2_with fail
    refine HD.out.mono ?_
    rintro e w2 ⟨v2, rfl, hown, ho2, hg3, _⟩
    have HO2 := Aside0.mk (Kd.R_lower ho2 (base' := w.heap.size) (by simp))
    have HB2 := Aside0.mk (Below.grown HB.out hg3 (Nat.le_of_lt hz) (fun k hk => by cases hk; exact HG.out))
    clear HD hown ho2 hg3
    go_wp2
    go_ret
    exact ⟨_, rfl, HO2.out, HB2.out⟩
  · have h0 : l0 = [] := List.eq_nil_of_length_eq_zero (by omega)
    subst h0
    obtain ⟨A, c, rfl⟩ := Kd.R_slice ho
    have HO := Aside0.mk (Kd.R_lower ho (base' := w.heap.size) (by simp))
    clear hb HC ho kt hn hz
    go_wp2_with fail
    refine (del0_29 A c w.heap.size w1).mono ?_
    rintro e w2 ⟨rfl, hb⟩
    have HB2 := Aside0.mk (below_call HB.out hb)
    have HO2 := Aside0.mk (Kd.R_below HO.out hb)
    clear hb
    go_wp2
    go_ret
    exact ⟨_, rfl, HO2.out, HB2.out⟩
end Go.Proofs.Ytgmflfbhifdacaa.Pr
