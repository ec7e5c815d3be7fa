/- slices.Clone of numbers and of deals: what they compute, and that they do. Conditions: none. -/
import Derived.Test.YtdlkpejlkijgcaaPr0
import Derived.Test.YtdlkpejlkijgcaaHnd
namespace Go.Proofs.Ytdlkpejlkijgcaa.Pr
open Go.RowKit Go.Proofs.YtdlkpejlkijgcaaW.PrintWords Go.Proofs.YtdlkpejlkijgcaaW.PrintLast Go.Proofs.YtdlkpejlkijgcaaW.PrintMore
open Go.Proofs.Ytdlkpejlkijgcaa.Hnd
attribute [local go_sem] setCell_drewN_ alloc_drewN_
set_option linter.unusedVariables false
set_option linter.unusedSimpArgs false
theorem nil_eqU (A : Option Addr) (n c : Nat) (w : World) : (binOp .eql 36 (.slice A n c) (.slice none 0 0)).run Try.prog w = .ok (.bool A.isNone) w := by
  cases A <;> kernel_rfl
theorem nil_eqD (A : Option Addr) (n c : Nat) (w : World) : (binOp .eql 24 (.slice A n c) (.slice none 0 0)).run Try.prog w = .ok (.bool A.isNone) w := by
  cases A <;> kernel_rfl
attribute [local go_sem high] nil_eqU nil_eqD
theorem nil_of_C {α : Type} {d : Kd α} {w : World} {l : List α} (h : Kd.C d w none l.length l) : l = [] := by
  by_cases hz : 0 < l.length
  · obtain ⟨ad, ha, _⟩ := h.2.2 hz
    cases ha
  · exact List.eq_nil_of_length_eq_zero (by omega)
def cloneU.f (l0 : List Int) : Option (List Int) := if l0.length < 17592186044416 then some l0 else none
def cloneD.f (l0 : List S42) : Option (List S42) := if l0.length < 2932031007402 then some l0 else none
theorem infoU : (Try.prog.info? 28).map (fun i => (i.zero, i.size, i.bytes)) = some (some (.int .u64 0), 1, 8) := by kernel_rfl
theorem infoD : (Try.prog.info? 42).map (fun i => (i.zero, i.size, i.bytes)) = some (some (.agg #[.int .u64 0, .int .u64 0, .slice none 0 0, .int .i64 0]), 4, 48) := by kernel_rfl
theorem apart_new {P0 : Nat → Prop} {n : Nat} {v : Value} (h : ∃ b, v.ownBlock = some b ∧ n ≤ b) (k : Nat) (hk : P0 k ∧ k < n) : (P0 k ∨ n ≤ k) ∧ some k ≠ v.ownBlock := by
  obtain ⟨b, hb, hle⟩ := h
  obtain ⟨h1, h2⟩ := hk
  refine ⟨.inl h1, fun e => ?_⟩
  rw [hb] at e
  injection e with e
  omega
set_option maxHeartbeats 1000000 in
set_option maxRecDepth 100000 in
theorem cloneU.calls (A0 : Option Addr) (c0 : Nat) (l0 : List Int) (r : List Int) (w : World) (hr0 : Kd.C (Kd.int .u64) w A0 l0.length l0) (hc0 : l0.length ≤ c0) (h : cloneU.f l0 = some r) :
    Calls Try.prog 23 #[.slice A0 l0.length c0] w fun e w' => ∃ v0_ : Value, e = .returned (v0_) ∧ Kd.R (Kd.int .u64) 28 w' w.heap.size (fun _ => True) v0_ r ∧ Below w.heap.size w w' := by
  unfold cloneU.f at h
  by_cases hs : l0.length < 17592186044416
  rotate_left
  · rw [if_neg hs] at h; cases h
  rw [if_pos hs] at h
  obtain rfl := Option.some.inj h
  clear h
  have HS := Aside0.mk hs
  have HR := Aside0.mk hr0
  cases A0 with
  | none =>
    obtain rfl := nil_of_C hr0
    clear hr0 hs
    go_enter Try.func23, Try.ntmps23
    go_wp2
    go_ret
    exact ⟨_, rfl, Kd.R_nil _ _ _ _ _, Below.refl _ _⟩
  | some ad =>
    clear hr0 hs
    go_enter Try.func23, Try.ntmps23
    go_wp2_with (first
      | ((with_reducible refine gate_dst (N := 5) rfl ?_); refine Kd.R_lit (Kd.int .u64) (w0 := w) w.heap.size 28 ?hg (N := 5) ?hd (xs := ([] : List Int)) (inner := []) (ok := fun _ => True) (okp := fun _ => True) ?hr ?hp (fun _ hk => hk) trivial (Below.refl _ _) (Nat.le_refl _) (by simp) ?_; (case hd => rfl); (case hg => rfl); (case hr => first | (go_simp; done) | (go_simp; rfl)); (case hp => exact (Reps.none _ _)); intro v1 w1 ho hb hg_ hnew_; have HO := Aside0.mk ho; have HB := Aside0.mk hb; clear ho hb hg_ hnew_)
      | ((with_reducible refine gate_builtin (b := .append) (xs := #[.tmp 5, .tmp 6]) rfl ?_); (try (refine gate_guard (by rfl) ?_; dsimp only)); at_builtin; refine Kd.R_append_rows (Kd.int .u64) (w0 := w) w.heap.size rfl (.tmp 5) (.tmp 6) 36 28 (.int .u64 0) 8 rfl Try.underlying36 infoU rfl (by decide) (by omega) _ ([] : List Int) l0 _ _ _ (fun _ => True) (fun _ => False) rfl rfl ?aO ?aR (fun _ _ h => h) (fun _ h => h.elim) (fun _ _ => trivial) ?aB ?aS ?aL ?_; (case aR => exact Kd.C_below HR.out HB.out); (case aB => exact HB.out); (case aO => exact HO.out); (case aS => exact HB.out.size); (case aL => have := HS.out; simp only [List.length_nil]; omega); intro v2 w2 ho hb hg hat; have HO2 := Aside0.mk ho; have HB2 := Aside0.mk hb; clear ho hb hg hat))
    go_ret
    exact ⟨_, rfl, HO2.out, HB2.out⟩
set_option maxHeartbeats 1000000 in
set_option maxRecDepth 100000 in
theorem cloneD.calls (P0 : Nat → Prop) (A0 : Option Addr) (c0 : Nat) (l0 : List S42) (r : List S42) (w : World) (hs0 : Kd.V k42 42 w w.heap.size (fun k_ => P0 k_) (.slice A0 l0.length c0) l0) (h : cloneD.f l0 = some r) :
    Calls Try.prog 31 #[.slice A0 l0.length c0] w fun e w' => ∃ v0_ : Value, e = .returned (v0_) ∧ Kd.N k42 42 w' w.heap.size (fun k_ => (P0 k_ ∨ w.heap.size ≤ k_)) v0_ r ∧ Below w.heap.size w w' := by
  unfold cloneD.f at h
  by_cases hs : l0.length < 2932031007402
  rotate_left
  · rw [if_neg hs] at h; cases h
  rw [if_pos hs] at h
  obtain rfl := Option.some.inj h
  clear h
  have HS := Aside0.mk hs
  have hF := Kd.F_bound (Kd.V_F hs0)
  have hr0 := (Kd.V_reads' hs0).2.2
  have HF := Aside0.mk hF
  cases A0 with
  | none =>
    obtain rfl := nil_of_C hr0
    clear hr0 hs hs0 hF
    go_enter Try.func31, Try.ntmps31
    go_wp2
    go_ret
    exact ⟨_, rfl, Kd.R_N (Kd.R_nil _ _ _ _ _), Below.refl _ _⟩
  | some ad =>
    clear hr0 hs hs0 hF
    go_enter Try.func31, Try.ntmps31
    go_wp2_with (first
      | ((with_reducible refine gate_dst (N := 5) rfl ?_); refine Kd.N_lit k42 (w0 := w) w.heap.size 42 ?hg (N' := 5) ?hd (xs := ([] : List S42)) (inner := []) (ok := fun k_ => (P0 k_ ∨ w.heap.size ≤ k_)) (okp := fun _ => False) ?hr ?hp (fun _ hk => hk.elim) (.inr (Nat.le_refl _)) (Below.refl _ _) (Nat.le_refl _) (by simp) ?_; (case hd => rfl); (case hg => rfl); (case hr => first | (go_simp; done) | (go_simp; rfl)); (case hp => exact (Reps.none _ _)); intro v1 w1 ho hb hg_ hnew_; have HO := Aside0.mk ho; have HB := Aside0.mk hb; have HN := Aside0.mk hnew_; clear ho hb hg_ hnew_)
      | ((with_reducible refine gate_builtin (b := .append) (xs := #[.tmp 5, .tmp 6]) rfl ?_); (try (refine gate_guard (by rfl) ?_; dsimp only)); at_builtin; refine Kd.N_append_rows k42 (w0 := w) w.heap.size rfl (.tmp 5) (.tmp 6) 24 42 (.agg #[.int .u64 0, .int .u64 0, .slice none 0 0, .int .i64 0]) 48 rfl Try.underlying24 infoD rfl (by decide) (by omega) _ ([] : List S42) l0 _ _ _ (fun k_ => (P0 k_ ∨ w.heap.size ≤ k_)) (fun k_ => P0 k_ ∧ k_ < w.heap.size) rfl rfl ?aO ?aR ?aK ?aF ?aB ?aS ?aL ?_; (case aR => exact Kd.F_below HF.out HB.out); (case aB => exact HB.out); (case aO => exact HO.out); (case aS => exact HB.out.size); (case aK => exact apart_new HN.out); (case aF => intro k hk; exact .inr (Nat.le_trans HB.out.size hk)); (case aL => have := HS.out; simp only [List.length_nil]; omega); intro v2 w2 ho hb hg hat; have HO2 := Aside0.mk ho; have HB2 := Aside0.mk hb; clear ho hb hg hat))
    go_ret
    exact ⟨_, rfl, HO2.out, HB2.out⟩
end Go.Proofs.Ytdlkpejlkijgcaa.Pr
