/- rlog.own: what it computes, and that it does. Conditions: none. -/
import Derived.Test.YtbejichfgednhaaHandClone
namespace Go.Proofs.Ytbejichfgednhaa.Pr
open Go.RowKit Go.Proofs.YtbejichfgednhaaW.PrintWords Go.Proofs.YtbejichfgednhaaW.PrintLast Go.Proofs.YtbejichfgednhaaW.PrintMore
open Go.Proofs.Ytbejichfgednhaa.Hnd
attribute [local go_sem] setCell_drewN_ alloc_drewN_
set_option linter.unusedVariables false
set_option linter.unusedSimpArgs false
def rlog_own.f (a0_0 : Int) (a0_1 : Int) (a0_2 : ByteArray) (l0_3 : List S36) (a1 : Int) : Option (List S36) := if 0 ≤ a1 ∧ a1 ≤ l0_3.length then slices_Clone.f (l0_3.take a1.toNat) else none
set_option maxHeartbeats 1000000 in
set_option maxRecDepth 100000 in
theorem rlog_own.calls (a0_0 : Int) (a0_1 : Int) (a0_2 : ByteArray) (A0_3 : Option Addr) (c0_3 : Nat) (l0_3 : List S36) (a1 : Int) (r : List S36) (w : World) (hr0_3 : Kd.C k36 w A0_3 l0_3.length l0_3) (hc0_3 : l0_3.length ≤ c0_3) (h : rlog_own.f a0_0 a0_1 a0_2 l0_3 a1 = some r) :
    Calls Try.prog 31 #[.agg #[.int .u64 a0_0, .int .u64 a0_1, .string a0_2, .slice A0_3 l0_3.length c0_3], .int .i64 a1] w fun e w' => ∃ v0_ : Value, e = .returned (v0_) ∧ Kd.R k36 36 w' w.heap.size (fun _ => True) v0_ r ∧ Below w.heap.size w w' := by
  unfold rlog_own.f at h
  by_cases hs : 0 ≤ a1 ∧ a1 ≤ l0_3.length
  rotate_left
  · rw [if_neg hs] at h; cases h
  rw [if_pos hs] at h
  have HS := Aside0.mk hs
  have HR := Aside0.mk hr0_3
  have HC := Aside0.mk hc0_3
  obtain ⟨n, rfl⟩ := Int.eq_ofNat_of_zero_le hs.1
  have hn : n ≤ l0_3.length := by omega
  clear hs hr0_3
  have hlt : (l0_3.take n).length = n := by rw [List.length_take]; omega
  have HN := Aside0.mk hlt
  have HT := Aside0.mk (Kd.C_take HR.out hn)
  have HF := Aside0.mk h
  clear h hlt
  go_enter Try.func31, Try.ntmps31
  go_wp2_with fail
  have HK := slices_Clone.calls A0_3 n (l0_3.take n) r (w.alloc (.cells #[.int .u64 a0_0, .int .u64 a0_1, .string a0_2, .slice A0_3 l0_3.length c0_3] 25)) (Kd.C_alloc HT.out _) (Nat.le_of_eq HN.out) HF.out
  rw [HN.out] at HK
  refine HK.mono ?_
  rintro e w1 ⟨v, rfl, ho, hb⟩
  have HO := Aside0.mk ho
  have HB := Aside0.mk hb
  clear ho hb HK
  go_wp2
  go_ret
  exact ⟨_, rfl, Kd.R_lower HO.out (by simp), below_call (below_alloc (Below.refl w.heap.size w) _) HB.out⟩
end Go.Proofs.Ytbejichfgednhaa.Pr
