/- seal.All: what its function value tells, one behind the other, to whatever loop body. Conditions: none. -/
import Derived.RangeFuncNested
import Derived.RangeFuncBound
import Derived.RangeFuncCalls
import Derived.RangeFuncLeaves
import Derived.Shelf.Abstract
import Derived.Shelf.RegionOpen
import Derived.WalkKit
import Derived.OwnWalkIn
import Derived.TacticsInMore
import Derived.LoopNIn
import Derived.LoopIn
import Derived.Test.YtkkkpmobdaebgaaPr11
import Derived.Test.YtkkkpmobdaebgaaHnd
namespace Go.Proofs.Ytkkkpmobdaebgaa.Pr
open Go.RowKit Go.Shelf Go.Proofs.YtkkkpmobdaebgaaW.PrintWords Go.Proofs.YtkkkpmobdaebgaaW.PrintLast Go.Proofs.YtkkkpmobdaebgaaW.PrintMore Go.Proofs.Ytkkkpmobdaebgaa.Hnd
attribute [local go_sem] Oper.semAt_some
set_option linter.unusedVariables false
set_option linter.unusedSimpArgs false
/-- The sealed texts in a text, one behind the other. -/
def allF (k : Nat) : Nat → ByteArray → Option (List ByteArray)
  | 0, _ => none
  | m + 1, b => (seal_Take.f k b).bind fun r => if r.2.2 = 0 then (if r.2.1.size < b.size then (allF k m r.2.1).map (r.1 :: ·) else none) else some []
def strSize : Value → Nat
  | .string s => s.size
  | _ => 0
theorem below_grown' {w w' : World} (h : Below w.heap.size w w') : w.grownBy w' none := ⟨h.os, h.tape, h.output, h.size, fun k hk _ => h.block k hk⟩
set_option maxRecDepth 100000 in
set_option maxHeartbeats 2000000 in
theorem all1_in (k m : Nat) (n : Nat) (hn : 1 ≤ n) (l Bs : Nat) (b : ByteArray) (L : List ByteArray) (hL : allF k m b = some L)
    (J Jx : List ByteArray → World → Prop) (B0 : Nat) (hJA : AbidesFrom B0 J)
    (hY : ∀ pre x W, J pre W → pre.length < L.length → YieldAt Fence.wide (n - 1) Try.prog l #[.string x] W fun e W' =>
      (e = .returned (.bool true) ∧ J (pre ++ [x]) W' ∧ True) ∨ (e = .returned (.bool false) ∧ Jx (pre ++ [x]) W'))
    (W : World) (hBs : W.heap[Bs]? = some (.cells #[.string b] 9 (0, 0))) (hJ0 : J [] W) :
    CallsIn Fence.wide n Try.prog 29 #[.func (.yield l) #[] #[], .pointer (some ⟨Bs, 0, none⟩)] W fun e W' => (∃ v, e = .returned v) ∧
      ((∃ ys, ys = L ∧ J ys W') ∨ (∃ pre, pre <+: L ∧ Jx pre W')) := by
  have z0 := blk_cell hBs 0
  refine callsIn_of_wp Try.func29 rfl trivial ?_ rfl
  simp only [Try.ntmps29, List.size_toArray, List.length_cons, List.length_nil, Nat.reduceAdd, Nat.reduceSub, Array.replicate_succ, Array.replicate_zero, List.push_toArray, List.append_toArray, List.nil_append, List.cons_append]
  gi_wp2
  gi_loopw [3, 4, 5, 6] (fun v3 v4 v5 v6 wr => ∃ (pre : List ByteArray) (r : ByteArray) (m' : Nat) (L' : List ByteArray), v3 = .string r ∧ allF k m' r = some L' ∧ L = pre ++ L' ∧ J pre wr)
    (fun v3 _ _ _ _ => strSize v3)
  case atStart => exact ⟨[], b, m, L, rfl, hL, rfl, hJ0⟩
  case round =>
    obtain ⟨pre, r, m', L', rfl, hA, hLL, hJs⟩ := hrel
    have hA0 := hA
    match m', hA with
    | 0, hA => exact absurd hA (by simp [allF])
    | m' + 1, hA =>
      unfold allF at hA
      replace hA := Option.bind_eq_some_iff.mp hA
      obtain ⟨⟨s, rest, er⟩, hT, hA⟩ := hA
      dsimp only at hA
      clear hA0
      gi_wp2
      refine ⟨trivial, ((callsIn_wide (n := n - 1)).2 (seal_Take.calls k r s rest er _ hT)).mono ?_⟩
      rintro e w1 ⟨rfl, hb⟩
      have hJ1 : J pre w1 := hJA pre wr w1 none hJs (below_grown' hb) (fun r e => by cases e)
      by_cases her : er = 0
      · rw [if_pos her] at hA
        by_cases hsz : rest.size < r.size
        rotate_left
        · rw [if_neg hsz] at hA; cases hA
        rw [if_pos hsz] at hA
        obtain ⟨L2, hL2, rfl⟩ := Option.map_eq_some_iff.1 hA
        have hneb : (er != 0) = false := by rw [her]; rfl
        obtain ⟨fn, tmps, assign, body, hy, hR⟩ := hY pre s w1 hJ1 (by rw [hLL, List.length_append, List.length_cons]; omega)
        subst her
        gi_wp2
        refine hR.mono ?_
        rintro e W3 (⟨rfl, hJ3, _⟩ | ⟨rfl, hJx3⟩)
        · gi_wp2
          go_roundw
          case rel => exact ⟨pre ++ [s], rest, m', L2, rfl, hL2, by rw [hLL, List.append_assoc]; rfl, hJ3⟩
          case measure =>
            show strSize (.string rest) < strSize (.string r)
            exact hsz
        · gi_wp2
          refine bodyPost_ret (results_none rfl _ _ _) rfl ?_
          exact ⟨⟨_, rfl⟩, .inr ⟨_, ⟨L2, by rw [hLL, List.append_assoc]; rfl⟩, hJx3⟩⟩
      · rw [if_neg her] at hA
        obtain rfl := Option.some.inj hA
        have hneb : (er != 0) = true := bne_iff_ne.mpr her
        gi_wp2
        refine ⟨(fun f h => by cases h), ?_⟩
        gi_wp2
        refine bodyPost_ret (results_none rfl _ _ _) rfl ?_
        exact ⟨⟨_, rfl⟩, .inl ⟨pre, by rw [hLL, List.append_nil], hJ1⟩⟩
end Go.Proofs.Ytkkkpmobdaebgaa.Pr
