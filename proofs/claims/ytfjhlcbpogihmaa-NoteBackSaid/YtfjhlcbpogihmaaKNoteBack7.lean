/- Several texts of one depth, laid together. Conditions: none. -/
import Derived.RangeFuncNested
import Derived.RangeFuncBound
import Derived.RangeFuncCalls
import Derived.RangeFuncLeaves
import Derived.Shelf.Abstract
import Derived.Shelf.RegionOpen
import Derived.WalkKit
import Derived.OwnWalkIn
import Derived.TacticsInMore
import Derived.LoopNIn
import Derived.LoopIn
import Derived.Test.YtfjhlcbpogihmaaGNoteBackPr18
import Derived.Test.YtfjhlcbpogihmaaKNoteBack1
import Derived.Test.YtfjhlcbpogihmaaGNoteBackPackO
import Derived.Test.YtfjhlcbpogihmaaGNoteBackHandNums
import Derived.Test.YtfjhlcbpogihmaaKNoteBack3
import Derived.Test.YtfjhlcbpogihmaaGNoteBackHandTakes
import Derived.Test.YtfjhlcbpogihmaaKNoteBack5
import Derived.Test.YtfjhlcbpogihmaaGNoteBackPr11
import Derived.Test.YtfjhlcbpogihmaaGNoteBackPr12
section
namespace Go.Proofs.Ytfjhlcbpogihmaa.Pr
open Go.RowKit Go.Shelf Go.Proofs.YtfjhlcbpogihmaaW.PrintWords Go.Proofs.YtfjhlcbpogihmaaW.PrintLast Go.Proofs.YtfjhlcbpogihmaaW.PrintMore Go.Proofs.Ytfjhlcbpogihmaa.Hnd
attribute [local go_sem] Oper.semAt_some
set_option linter.unusedVariables false
set_option linter.unusedSimpArgs false
/-- The sealed texts in a text, one behind the other. -/
def allF (k : Nat) : Nat → ByteArray → Option (List ByteArray)
  | 0, _ => none
  | m + 1, b => (seal_Take.f k b).bind fun r => if r.2.2 = 0 then (if r.2.1.size < b.size then (allF k m r.2.1).map (r.1 :: ·) else none) else some []
def strSize : Value → Nat
  | .string s => s.size
  | _ => 0
theorem below_grown' {w w' : World} (h : Below w.heap.size w w') : w.grownBy w' none := ⟨h.os, h.tape, h.output, h.size, fun k hk _ => h.block k hk⟩
set_option maxRecDepth 100000 in
set_option maxHeartbeats 2000000 in
theorem all1_in {α : Type} (g : α → ByteArray) (k m : Nat) (n : Nat) (hn : 1 ≤ n) (l Bs : Nat) (b : ByteArray) (L : List α) (hL : allF k m b = some (L.map g))
    (J Jx : List α → World → Prop) (B0 : Nat) (hJA : AbidesFrom B0 J)
    (hY : ∀ pre x W, J pre W → pre.length < L.length → YieldAt Fence.wide (n - 1) Try.prog l #[.string (g x)] W fun e W' =>
      (e = .returned (.bool true) ∧ J (pre ++ [x]) W' ∧ True) ∨ (e = .returned (.bool false) ∧ Jx (pre ++ [x]) W'))
    (W : World) (hBs : W.heap[Bs]? = some (.cells #[.string b] 9 (0, 0))) (hJ0 : J [] W) :
    CallsIn Fence.wide n Try.prog 82 #[.func (.yield l) #[] #[], .pointer (some ⟨Bs, 0, none⟩)] W fun e W' => (∃ v, e = .returned v) ∧
      ((∃ ys, ys = L ∧ J ys W') ∨ (∃ pre, pre <+: L ∧ Jx pre W')) := by
  have z0 := blk_cell hBs 0
  refine callsIn_of_wp Try.func82 rfl trivial ?_ rfl
  simp only [Try.ntmps82, List.size_toArray, List.length_cons, List.length_nil, Nat.reduceAdd, Nat.reduceSub, Array.replicate_succ, Array.replicate_zero, List.push_toArray, List.append_toArray, List.nil_append, List.cons_append]
  gi_wp2
  gi_loopw [3, 4, 5, 6] (fun v3 v4 v5 v6 wr => ∃ (pre : List α) (r : ByteArray) (m' : Nat) (L' : List α), v3 = .string r ∧ allF k m' r = some (L'.map g) ∧ L = pre ++ L' ∧ J pre wr)
    (fun v3 _ _ _ _ => strSize v3)
  case atStart => exact ⟨[], b, m, L, rfl, hL, rfl, hJ0⟩
  case round =>
    obtain ⟨pre, r, m', L', rfl, hA, hLL, hJs⟩ := hrel
    have hA0 := hA
    match m', hA with
    | 0, hA => exact absurd hA (by simp [allF])
    | m' + 1, hA =>
      unfold allF at hA
      replace hA := Option.bind_eq_some_iff.mp hA
      obtain ⟨⟨s, rest, er⟩, hT, hA⟩ := hA
      dsimp only at hA
      clear hA0
      gi_wp2
      refine ⟨trivial, ((callsIn_wide (n := n - 1)).2 (seal_Take.calls k r s rest er _ hT)).mono ?_⟩
      rintro e w1 ⟨rfl, hb⟩
      have hJ1 : J pre w1 := hJA pre wr w1 none hJs (below_grown' hb) (fun r e => by cases e)
      by_cases her : er = 0
      · rw [if_pos her] at hA
        by_cases hsz : rest.size < r.size
        rotate_left
        · rw [if_neg hsz] at hA; cases hA
        rw [if_pos hsz] at hA
        obtain ⟨L2s, hL2s, hAm⟩ := Option.map_eq_some_iff.1 hA
        obtain ⟨x, L2, rfl, hgx, hL2e⟩ : ∃ x L2, L' = x :: L2 ∧ g x = s ∧ L2.map g = L2s := by
          cases L' with
          | nil => cases hAm
          | cons x L2 => simp only [List.map_cons, List.cons.injEq] at hAm; exact ⟨x, L2, rfl, hAm.1.symm, hAm.2.symm⟩
        have hL2 : allF k m' rest = some (L2.map g) := by rw [hL2e]; exact hL2s
        have hneb : (er != 0) = false := by rw [her]; rfl
        have hY' := hY pre x w1 hJ1 (by rw [hLL, List.length_append, List.length_cons]; omega)
        rw [hgx] at hY'
        obtain ⟨fn, tmps, assign, body, hy, hR⟩ := hY'
        subst her
        gi_wp2
        refine hR.mono ?_
        rintro e W3 (⟨rfl, hJ3, _⟩ | ⟨rfl, hJx3⟩)
        · gi_wp2
          go_roundw
          case rel => exact ⟨pre ++ [x], rest, m', L2, rfl, hL2, by rw [hLL, List.append_assoc]; rfl, hJ3⟩
          case measure =>
            show strSize (.string rest) < strSize (.string r)
            exact hsz
        · gi_wp2
          refine bodyPost_ret (results_none rfl _ _ _) rfl ?_
          exact ⟨⟨_, rfl⟩, .inr ⟨_, ⟨L2, by rw [hLL, List.append_assoc]; rfl⟩, hJx3⟩⟩
      · rw [if_neg her] at hA
        obtain rfl : L' = [] := List.map_eq_nil_iff.1 (Option.some.inj hA).symm
        have hneb : (er != 0) = true := bne_iff_ne.mpr her
        gi_wp2
        refine ⟨(fun f h => by cases h), ?_⟩
        gi_wp2
        refine bodyPost_ret (results_none rfl _ _ _) rfl ?_
        exact ⟨⟨_, rfl⟩, .inl ⟨pre, by rw [hLL, List.append_nil], hJ1⟩⟩
/-- seal.All: the text is boxed; the function value captures the box. -/
theorem all_in (n : Nat) (b : ByteArray) (w : World) :
    CallsIn Fence.wide n Try.prog 51 #[.string b] w fun e w' => e = .returned (.func (.func 82) #[] #[.pointer (some ⟨w.heap.size, 0, none⟩)]) ∧ w' = w.alloc (.cells #[.string b] 9) := by
  refine callsIn_of_wp Try.func51 rfl trivial ?_ rfl
  simp only [Try.ntmps51, List.size_toArray, List.length_cons, List.length_nil, Nat.reduceAdd, Nat.reduceSub, Array.replicate_succ, Array.replicate_zero, List.push_toArray, List.append_toArray, List.nil_append, List.cons_append]
  gi_wp2
  go_ret
  exact ⟨rfl, rfl⟩
/-- .. tells the sealed texts, and stops. -/
theorem all_stops {α : Type} (g : α → ByteArray) (k m : Nat) (n : Nat) (hn : 1 ≤ n) (Bs : Nat) (b : ByteArray) (L : List α) (hL : allF k m b = some (L.map g)) (w : World) (hBs : w.heap[Bs]? = some (.cells #[.string b] 9 (0, 0))) :
    SeqStopsK Fence.wide n Try.prog 82 #[.pointer (some ⟨Bs, 0, none⟩)] (fun x : α => #[.string (g x)]) (fun _ _ => True) (fun ys => ys = L) (fun pre => pre <+: L) L.length w := fun l J Jx W hW hJ hJx hY h0 =>
  all1_in g k m n hn l Bs b L hL J Jx W.heap.size hJ hY W (blk_below hBs hW) h0
theorem allF_mono (k : Nat) : ∀ m b, LeO (allF k m b) (allF (k + 1) m b)
  | 0, _ => LeO.refl _
  | m + 1, b => LeO.bind (seal_Take.mono _ _) (fun r => LeO.ite (LeO.ite (LeO.map _ (allF_mono k m _)) (LeO.refl _)) (LeO.refl _))
theorem inU64_wrapW (x : Int) : inU64 (IntKind.u64.wrap x) := by
  unfold inU64
  simp [IntKind.wrap, IntKind.signed, IntKind.bits]
  omega
end Go.Proofs.Ytfjhlcbpogihmaa.Pr
end
section
namespace Go.Proofs.Ytfjhlcbpogihmaa.Pr
open Go.RowKit Go.Proofs.YtfjhlcbpogihmaaW.PrintWords Go.Proofs.YtfjhlcbpogihmaaW.PrintLast Go.Proofs.YtfjhlcbpogihmaaW.PrintMore
set_option linter.unusedVariables false
set_option linter.unusedSimpArgs false
theorem numL_le8 (v : Int) : (strOfNums (numL v)).size ≤ 8 := by
  have h := size_num v
  rcases sizeI_cases v with h1 | h1 | h1 | h1 | h1 <;> omega
end Go.Proofs.Ytfjhlcbpogihmaa.Pr
end
section
namespace Go.Proofs.Ytfjhlcbpogihmaa.Pr
open Go.RowKit Go.Proofs.YtfjhlcbpogihmaaW.PrintWords Go.Proofs.YtfjhlcbpogihmaaW.PrintLast Go.Proofs.YtfjhlcbpogihmaaW.PrintMore
theorem sumI_range (s : ByteArray) : 0 ≤ sumI s ∧ sumI s < 4294967296 := by
  have := half_range s s.size
  unfold sumI
  omega
theorem rsum_loop (s : ByteArray) (hs : s.size ≤ 4611686018427387904) : ∀ d k i, i + d = s.size → ferruleref02_Sum.l0 (k + d + 1) s (half s i).1 (half s i).2 (i : Int) = some (sumI s)
  | 0, k, i, hi => by
    show ferruleref02_Sum.l0 (k + 1) s _ _ _ = _
    have hr := half_range s i
    have hie : i = s.size := by omega
    rw [ferruleref02_Sum.l0, if_neg (by omega)]
    unfold sumI
    rw [← hie]
    congr 1
    omega
  | d + 1, k, i, hi => by
    show ferruleref02_Sum.l0 ((k + d + 1) + 1) s _ _ _ = _
    have hr := half_range s i
    have hb := bt_range s i
    have ih := rsum_loop s hs d k (i + 1) (by omega)
    simp only [half] at ih
    rw [ferruleref02_Sum.l0, if_pos (by omega), if_pos (by omega)]
    have e1 : (((half s i).1 + (bt s i % 4294967296)) % 4294967296) % 65521 = ((half s i).1 + bt s i) % 65521 := by omega
    have e2 : (((half s i).2 + ((half s i).1 + bt s i) % 65521) % 4294967296) % 65521 = ((half s i).2 + ((half s i).1 + bt s i) % 65521) % 65521 := by omega
    rw [e1, e2, wrap64_big (by omega) (by omega)]
    exact ih
theorem rsum_f (s : ByteArray) (hs : s.size ≤ 4611686018427387904) (k : Nat) (hk : s.size + 1 ≤ k) : ferruleref02_Sum.f k s = some (sumI s) := by
  have hk2 : k = (k - s.size - 1) + s.size + 1 := by omega
  unfold ferruleref02_Sum.f
  rw [hk2]
  exact rsum_loop s hs s.size (k - s.size - 1) 0 (by omega)
theorem sum_f (s : ByteArray) (hs : s.size ≤ 4611686018427387904) : seal_Sum.f s = some (sumI s) := by
  unfold seal_Sum.f
  rw [if_pos hs]
theorem up {α : Type} (f : Nat → Option α) (hm : ∀ k, LeO (f k) (f (k + 1))) {k n : Nat} {r : α} (h : f k = some r) (hkn : k ≤ n) : f n = some r := by
  obtain ⟨d, rfl⟩ := Nat.exists_eq_add_of_le hkn
  clear hkn
  induction d with
  | zero => exact h
  | succ d ih => exact hm _ _ ih
end Go.Proofs.Ytfjhlcbpogihmaa.Pr
end
section
namespace Go.Proofs.Ytfjhlcbpogihmaa.Pr
open Go.RowKit Go.Proofs.YtfjhlcbpogihmaaW.PrintWords Go.Proofs.YtfjhlcbpogihmaaW.PrintLast Go.Proofs.YtfjhlcbpogihmaaW.PrintMore
/-- A sum's bytes. -/
def tailB (v : Int) : ByteArray := strOfNums [(v / 16777216) % 256, (v / 65536) % 256, (v / 256) % 256, v % 256]
theorem tail_f (v : Int) : seal_tail.f v = some (tailB v) := rfl
theorem tailB_size (v : Int) : (tailB v).size = 4 := strOfNums_size _
theorem four_f {v : Int} (h0 : 0 ≤ v) : ferruleref02_four.f v = some (tailB v) := by
  unfold ferruleref02_four.f tailB
  rw [Int.tdiv_eq_ediv_of_nonneg h0, Int.tdiv_eq_ediv_of_nonneg h0, Int.tdiv_eq_ediv_of_nonneg h0, Int.tmod_eq_emod_of_nonneg h0]
  have e1 : (v / 16777216 % 4294967296) % 256 = v / 16777216 % 256 := by omega
  have e2 : (v / 65536 % 4294967296) % 256 = v / 65536 % 256 := by omega
  have e3 : (v / 256 % 4294967296) % 256 = v / 256 % 256 := by omega
  have e4 : (v % 256) % 256 = v % 256 := by omega
  rw [e1, e2, e3, e4]
/-- What stands ahead of the sum. -/
def headB (a : ByteArray) : ByteArray := strOfNums (numL (a.size : Int)) ++ a
theorem headB_size (a : ByteArray) : ((headB a).size : Int) = sizeI (a.size : Int) + a.size := by
  unfold headB
  rw [ByteArray.size_append]
  have := size_num (a.size : Int)
  omega
theorem put_f {a : ByteArray} (h : a.size ≤ 65536) : seal_Put.f a = some (headB a ++ tailB (sumI (headB a)), 0) := by
  have hi : inU64 (a.size : Int) := by unfold inU64; omega
  have hz := sizeI_cases (a.size : Int)
  have hs := size_num (a.size : Int)
  have hh := headB_size a
  have ht := tailB_size (sumI (headB a))
  unfold seal_Put.f
  rw [if_neg (by omega), num_f hi, Option.bind_some]
  try simp only
  rw [if_pos (by omega)]
  show ((seal_Sum.f (headB a)).bind fun t106 => _) = _
  rw [sum_f _ (by omega), Option.bind_some, tail_f, Option.bind_some]
  show (if (headB a).size + _ ≤ 9223372036854775807 then some (headB a ++ _, _) else none) = _
  rw [if_pos (by omega)]
  unfold numE
  rw [if_pos (by omega)]
end Go.Proofs.Ytfjhlcbpogihmaa.Pr
end
section
namespace Go.Proofs.Ytfjhlcbpogihmaa.Pr
open Go.RowKit Go.Proofs.YtfjhlcbpogihmaaW.PrintWords Go.Proofs.YtfjhlcbpogihmaaW.PrintLast Go.Proofs.YtfjhlcbpogihmaaW.PrintMore
set_option linter.unusedVariables false
set_option linter.unusedSimpArgs false
theorem wrap64_in' {x : Int} (h0 : -9223372036854775808 ≤ x) (h1 : x < 9223372036854775808) : wrap64 x = x := by
  simp [wrap64]
  omega
theorem ext_all {a : ByteArray} {n : Nat} (h : a.size ≤ n) : a.extract 0 n = a := by
  ext1
  simp only [ByteArray.data_extract]
  exact Array.extract_eq_self_of_le h
theorem stake (K : Nat) (hd x : ByteArray) (n : Nat) (hT : pack_TakeNum.f K (hd ++ x) = some ((n : Int), x, 0)) (hn : n ≤ 65536) (ha : (hd ++ x).size ≤ 4611686018427387904) :
    seal_Take.f K (hd ++ x) = if x.size < n + 4 then some ((⟨#[]⟩ : ByteArray), (⟨#[]⟩ : ByteArray), 2) else if (tailB (sumI (hd ++ x.extract 0 n))).toList = (x.extract n (n + 4)).toList then some (x.extract 0 n, x.extract (n + 4) x.size, 0) else some ((⟨#[]⟩ : ByteArray), (⟨#[]⟩ : ByteArray), 3) := by
  have hsz : (hd ++ x).size = hd.size + x.size := ByteArray.size_append
  unfold seal_Take.f
  rw [hT]
  simp only [Option.bind_some, if_true]
  rw [if_neg (by omega), wrap_in (x := (n : Int) + 4) (by omega) (by omega), wrap_in (x := (x.size : Int)) (by omega) (by omega)]
  by_cases c : x.size < n + 4
  · rw [if_pos c, if_pos (by omega)]
  · rw [if_neg c, if_neg (by omega)]
    have e1 : ((n : Int) + 4).toNat = n + 4 := by omega
    have e2 : (x.extract (n + 4) x.size).size = x.size - (n + 4) := by rw [ByteArray.size_extract]; omega
    rw [e1, e2]
    have e3 : wrap64 (wrap64 (((hd ++ x).size : Int) - ((x.size - (n + 4) : Nat) : Int)) - 4) = ((hd.size + n : Nat) : Int) := by
      rw [wrap64_in' (x := ((hd ++ x).size : Int) - _) (by omega) (by omega), wrap64_in' (by omega) (by omega)]
      omega
    rw [e3, Int.toNat_natCast, Int.toNat_natCast]
    have e4 : (hd ++ x).extract 0 (hd.size + n) = hd ++ x.extract 0 n := by
      rw [ByteArray.extract_append, ext_all (by omega)]
      rw [show 0 - hd.size = 0 from by omega, show hd.size + n - hd.size = n from by omega]
    rw [e4, if_pos (by omega), if_pos (by omega), if_pos (by omega), if_pos (by omega), if_pos (by omega), if_pos (by omega), sum_f _ (by rw [ByteArray.size_append, ByteArray.size_extract]; omega)]
    simp only [Option.bind_some]
    rw [tail_f]
    simp only [Option.bind_some]
    rw [if_pos (by omega)]
end Go.Proofs.Ytfjhlcbpogihmaa.Pr
end
section
namespace Go.Proofs.Ytfjhlcbpogihmaa.Pr
open Go.RowKit Go.Proofs.YtfjhlcbpogihmaaW.PrintWords Go.Proofs.YtfjhlcbpogihmaaW.PrintLast Go.Proofs.YtfjhlcbpogihmaaW.PrintMore
set_option linter.unusedVariables false
set_option linter.unusedSimpArgs false
/-- A sealed text. -/
def sealB (s : ByteArray) : ByteArray := headB s ++ tailB (sumI (headB s))
theorem sealB_size (s : ByteArray) : ((sealB s).size : Int) = sizeI (s.size : Int) + s.size + 4 := by
  unfold sealB
  rw [ByteArray.size_append]
  have := headB_size s
  have := tailB_size (sumI (headB s))
  omega
/-- It is taken, whatever stands behind it. -/
theorem take_sealed (s more : ByteArray) (hs : s.size ≤ 65536) (hm : more.size ≤ 281474976710656) : seal_Take.f 20 (sealB s ++ more) = some (s, more, 0) := by
  have hz := sizeI_cases (s.size : Int)
  have hh := size_num (s.size : Int)
  obtain ⟨t, ht⟩ : ∃ t, tailB (sumI (headB s)) = t := ⟨_, rfl⟩
  have htz : t.size = 4 := by rw [← ht]; exact tailB_size _
  have e : sealB s ++ more = strOfNums (numL (s.size : Int)) ++ (s ++ (t ++ more)) := by
    unfold sealB headB
    rw [ba_assoc, ba_assoc]
    show _ ++ (s ++ (tailB (sumI (headB s)) ++ more)) = _
    rw [ht]
  rw [e, stake 20 _ _ s.size (take_back _ (by omega) (by omega)) hs (by rw [ByteArray.size_append, ByteArray.size_append, ByteArray.size_append]; omega)]
  have e1 : (s ++ (t ++ more)).extract 0 s.size = s := ByteArray.extract_append_eq_left rfl
  have e2 : (s ++ (t ++ more)).extract s.size (s.size + 4) = t := by
    have := ByteArray.extract_append_size_add (a := s) (b := t ++ more) (i := 0) (j := 4)
    rw [Nat.add_zero] at this
    rw [this, ← htz]
    exact ByteArray.extract_append_eq_left rfl
  have e3 : (s ++ (t ++ more)).extract (s.size + 4) (s ++ (t ++ more)).size = more := by
    have hsz : (s ++ (t ++ more)).size = s.size + (4 + more.size) := by rw [ByteArray.size_append, ByteArray.size_append, htz]
    rw [hsz, ByteArray.extract_append_size_add]
    exact ByteArray.extract_append_eq_right htz.symm (by rw [htz])
  rw [if_neg (by rw [ByteArray.size_append, ByteArray.size_append]; omega), e1, e2, e3]
  exact if_pos (show (tailB (sumI (headB s))).toList = t.toList by rw [ht])
/-- No beginning of it is one. -/
theorem take_cut (s : ByteArray) (hs : s.size ≤ 65536) (c : Nat) (hc : c < (sealB s).size) : seal_Take.f 20 ((sealB s).extract 0 c) = some ((⟨#[]⟩ : ByteArray), (⟨#[]⟩ : ByteArray), 2) := by
  have hz := sizeI_cases (s.size : Int)
  have hh := size_num (s.size : Int)
  have hbz := sealB_size s
  obtain ⟨t, ht⟩ : ∃ t, tailB (sumI (headB s)) = t := ⟨_, rfl⟩
  have htz : t.size = 4 := by rw [← ht]; exact tailB_size _
  have e : sealB s = strOfNums (numL (s.size : Int)) ++ (s ++ t) := by
    unfold sealB headB
    rw [ba_assoc]
    show _ ++ (s ++ tailB (sumI (headB s))) = _
    rw [ht]
  obtain ⟨hd, hhd⟩ : ∃ hd, strOfNums (numL (s.size : Int)) = hd := ⟨_, rfl⟩
  have hback : ∀ x, pack_TakeNum.f 20 (hd ++ x) = some ((s.size : Int), x, 0) := fun x => by rw [← hhd]; exact take_back _ (by omega) (by omega)
  rw [hhd] at e hh
  by_cases hcut : c < hd.size
  · rcases take_full (sealB s) with ⟨er, her, hf⟩ | ⟨m, v, hm1, hm8, hm, hf, hi, hv, hL, hshort⟩
    · rw [e, hback] at hf
      injection hf with hf
      injection hf with _ hf
      injection hf with _ hf
      exact absurd hf.symm her
    · have hf2 := hf
      rw [e, hback] at hf2
      injection hf2 with hf2
      injection hf2 with _ hf2
      injection hf2 with hf2 _
      have hsz : (s ++ t).size = ((hd ++ (s ++ t)).extract m (hd ++ (s ++ t)).size).size := by rw [← hf2]
      have hz2 : (hd ++ (s ++ t)).size = hd.size + (s.size + 4) := by rw [ByteArray.size_append, ByteArray.size_append, htz]
      have hz3 : (s ++ t).size = s.size + 4 := by rw [ByteArray.size_append, htz]
      rw [ByteArray.size_extract, hz2, hz3] at hsz
      rw [e, hz2] at hm
      have hT := hshort 20 c (by omega)
      unfold seal_Take.f
      rw [hT]
      simp
  · have e2 : (sealB s).extract 0 c = hd ++ (s ++ t).extract 0 (c - hd.size) := by
      rw [e, ByteArray.extract_append, ext_all (by omega), show 0 - hd.size = 0 from by omega]
    have hz3 : (s ++ t).size = s.size + 4 := by rw [ByteArray.size_append, htz]
    have hz4 : ((s ++ t).extract 0 (c - hd.size)).size ≤ c - hd.size := by rw [ByteArray.size_extract]; omega
    rw [e2, stake 20 hd _ s.size (hback _) hs (by rw [ByteArray.size_append]; omega), if_pos (by omega)]
theorem extract_two (a : ByteArray) (n : Nat) (h : n ≤ a.size) : a.extract 0 n ++ a.extract n a.size = a := by
  ext1
  simp only [ByteArray.data_append, ByteArray.data_extract]
  have h2 : n ≤ a.data.size := h
  show a.data.extract 0 n ++ a.data.extract n a.data.size = a.data
  rw [Array.extract_append_extract]
  simp
  right
  omega
/-- Whatever bytes there are: something is answered, and what is left is shorter. -/
theorem take_total (a : ByteArray) (h : a.size ≤ 4611686018427387904) : ∃ r, seal_Take.f 20 a = some r ∧ (r.2.2 = 0 → r.2.1.size < a.size) := by
  rcases take_full a with ⟨er, her, hf⟩ | ⟨m, v, hm1, hm8, hm, hf, hi, hv, hL, hshort⟩
  · refine ⟨((⟨#[]⟩ : ByteArray), (⟨#[]⟩ : ByteArray), er), ?_, fun h => absurd h her⟩
    unfold seal_Take.f
    rw [hf]
    simp only [Option.bind_some]
    rw [if_neg her]
  · by_cases hb : v > 65536
    · refine ⟨((⟨#[]⟩ : ByteArray), (⟨#[]⟩ : ByteArray), 4), ?_, fun h => absurd h (by decide)⟩
      unfold seal_Take.f
      rw [hf]
      simp only [Option.bind_some, if_true]
      rw [if_pos (by omega)]
    · unfold inU64 at hi
      obtain ⟨n, rfl⟩ : ∃ n : Nat, v = (n : Int) := ⟨v.toNat, by omega⟩
      have e := extract_two a m hm
      have hz : (a.extract m a.size).size = a.size - m := by rw [ByteArray.size_extract]; omega
      have hs := stake 20 (a.extract 0 m) (a.extract m a.size) n (by rw [e]; exact hf) (by omega) (by rw [e]; exact h)
      rw [e] at hs
      rw [hs]
      split
      · exact ⟨_, rfl, fun h => absurd h (by decide)⟩
      · split
        · refine ⟨_, rfl, fun _ => ?_⟩
          rw [ByteArray.size_extract]
          omega
        · exact ⟨_, rfl, fun h => absurd h (by decide)⟩
end Go.Proofs.Ytfjhlcbpogihmaa.Pr
end
section
namespace Go.Proofs.Ytfjhlcbpogihmaa.Pr
open Go.RowKit Go.Proofs.YtfjhlcbpogihmaaW.PrintWords Go.Proofs.YtfjhlcbpogihmaaW.PrintLast Go.Proofs.YtfjhlcbpogihmaaW.PrintMore
set_option linter.unusedVariables false
set_option linter.unusedSimpArgs false
/-! The bytes. -/
def nB (v : Int) : ByteArray := strOfNums (numL v)
def nsB : List Int → ByteArray
  | [] => ⟨#[]⟩
  | v :: r => nB v ++ nsB r
theorem mk_self (s : ByteArray) : (⟨s.data.toList.toArray⟩ : ByteArray) = s := by cases s; rw [Array.toArray_toList]
theorem mk_app (l m : List UInt8) : (⟨(l ++ m).toArray⟩ : ByteArray) = ⟨l.toArray⟩ ++ ⟨m.toArray⟩ := by
  rw [← List.append_toArray]
  apply ByteArray.ext
  rw [ByteArray.data_append]
theorem app_list (a b : ByteArray) : (a ++ b).data.toList = a.data.toList ++ b.data.toList := by rw [ByteArray.data_append, Array.toList_append]
theorem dlen (s : ByteArray) : s.data.toList.length = s.size := Array.length_toList
theorem nB_le (v : Int) : (nB v).size ≤ 8 := numL_le8 v
theorem nsB_le : ∀ l, (nsB l).size ≤ 8 * l.length
  | [] => Nat.le_refl _
  | v :: r => by
    have := nB_le v
    have := nsB_le r
    rw [nsB, ByteArray.size_append, List.length_cons]
    omega
theorem num_ok {v : Int} (h0 : 0 ≤ v) (h1 : v ≤ 4611686018427387903) : pack_Num.f v = some (nB v, 0) := by
  rw [num_f (⟨h0, by omega⟩ : inU64 v)]
  unfold numE
  rw [if_pos (by omega)]
  rfl
theorem numsF_ok : ∀ (l : List Int) (acc : List UInt8), (∀ x ∈ l, 0 ≤ x ∧ x ≤ 4611686018427387903) → acc.length + 8 * l.length ≤ 140737488355328 → numsF l acc = some ((⟨acc.toArray⟩ : ByteArray) ++ nsB l, 0)
  | [], acc, _, _ => by rw [numsF, nsB, ba_nil]
  | v :: r, acc, h, hb => by
    have hv := h v (List.mem_cons_self ..)
    have h8 := nB_le v
    rw [List.length_cons] at hb
    rw [numsF, num_ok hv.1 hv.2]
    simp only [Option.bind_some, if_true]
    rw [if_pos (by omega), numsF_ok r _ (fun x hx => h x (List.mem_cons_of_mem _ hx)) (by rw [List.length_append, dlen]; omega), mk_app, mk_self, nsB, ba_assoc]
theorem nums_ok (l : List Int) (h : ∀ x ∈ l, 0 ≤ x ∧ x ≤ 4611686018427387903) (hl : l.length ≤ 1000) : pack_Nums.f l = some (nsB ((l.length : Int) :: l), 0) := by
  unfold pack_Nums.f
  rw [if_pos (by omega), numsF_ok _ _ (fun x hx => by rcases List.mem_cons.1 hx with rfl | hx <;> first | exact h x hx | omega) (by simp only [List.length_cons, List.length_nil]; omega)]
  rw [show (⟨([] : List UInt8).toArray⟩ : ByteArray) = ⟨#[]⟩ from rfl, nil_ba]
end Go.Proofs.Ytfjhlcbpogihmaa.Pr
end
section
namespace Go.Proofs.Ytfjhlcbpogihmaa.Pr
open Go.RowKit Go.Proofs.YtfjhlcbpogihmaaW.PrintWords Go.Proofs.YtfjhlcbpogihmaaW.PrintLast Go.Proofs.YtfjhlcbpogihmaaW.PrintMore
set_option linter.unusedVariables false
set_option linter.unusedSimpArgs false
theorem toNil5 {a : ByteArray} : (a.toList == ([] : List UInt8)) = decide ((a.size : Int) = 0) := by
  have h := toList_nil (a := a)
  by_cases c : (a.size : Int) = 0
  · rw [decide_eq_true c, h.2 c]; rfl
  · rw [decide_eq_false c]
    simpa using fun e => c (h.1 e)
/-- What stands behind the loop. -/
theorem seal_same (a : ByteArray) (ha : a.size ≤ 140737488351232) : ∃ r, seal_Take.f (a.size + 30) a = some r ∧ ferruleref02_Take.f (a.size + 30) a = some r := by
  obtain ⟨r, h1, h2⟩ := take_both a
  have g1 := up (fun k => pack_TakeNum.f k a) (fun k => pack_TakeNum.mono _ k) h1 (by omega : 20 ≤ a.size + 30)
  have g2 := up (fun k => ferruleref01_TakeNum.f k a) (fun k => ferruleref01_TakeNum.mono _ k) h2 (by omega : 20 ≤ a.size + 30)
  try simp only at g1 g2
  unfold seal_Take.f ferruleref02_Take.f
  rw [g1, g2]
  simp only [Option.bind_some]
  rcases take_full a with ⟨e, he, hf⟩ | ⟨m, v, hm1, hm8, hm, hf, hi, hv, hL, hshort⟩
  · rw [hf] at h1
    obtain rfl := Option.some.inj h1
    try simp only
    rw [if_neg he, if_neg he]
    exact ⟨_, rfl, rfl⟩
  · rw [hf] at h1
    obtain rfl := Option.some.inj h1
    try simp only
    have hv0 := hi.1
    have hrs : (a.extract m a.size).size = a.size - m := by rw [ByteArray.size_extract]; omega
    rw [if_true, if_true]
    by_cases c1 : v > 65536
    · rw [if_pos c1, if_pos c1]
      exact ⟨_, rfl, rfl⟩
    · rw [if_neg c1, if_neg c1]
      rw [wrap_in (x := v + 4) (by omega) (by omega), wrap_in (x := ((a.extract m a.size).size : Int)) (by omega) (by omega)]
      by_cases c2 : v + 4 > ((a.extract m a.size).size : Int)
      · rw [if_pos c2, if_pos c2]
        exact ⟨_, rfl, rfl⟩
      · rw [if_neg c2, if_neg c2]
        have has : ((a.extract m a.size).extract (v + 4).toNat (a.extract m a.size).size).size = (a.size - m) - (v + 4).toNat := by rw [ByteArray.size_extract]; omega
        have hA : wrap64 (wrap64 ((a.size : Int) - (((a.extract m a.size).extract (v + 4).toNat (a.extract m a.size).size).size : Int)) - 4) = m + v := by
          rw [has, wrap64_big (x := (a.size : Int) - (((a.size - m) - (v + 4).toNat : Nat) : Int)) (by omega) (by omega), wrap64_big (by omega) (by omega)]
          omega
        have hB : wrap64 (wrap64 ((a.size : Int) - ((a.extract m a.size).size : Int)) + wrap64 v) = m + v := by
          rw [hrs, wrap64_big (x := (a.size : Int) - ((a.size - m : Nat) : Int)) (by omega) (by omega), wrap64_big (x := v) (by omega) (by omega), wrap64_big (by omega) (by omega)]
          omega
        rw [hA, hB]
        have hes : (a.extract 0 ((m : Int) + v).toNat).size ≤ a.size := by rw [ByteArray.size_extract]; omega
        rw [if_pos hv0, if_pos (by omega), if_pos (by omega), if_pos (by omega), if_pos (by omega), if_pos (by omega), sum_f _ (by omega), rsum_f _ (by omega) _ (by omega)]
        simp only [Option.bind_some]
        rw [tail_f, four_f (sumI_range _).1]
        simp only [Option.bind_some]
        generalize tailB (sumI (a.extract 0 ((m : Int) + v).toNat)) = t
        by_cases c3 : t.toList = ((a.extract m a.size).extract v.toNat (v + 4).toNat).toList
        · simp only [if_pos c3, if_pos hv0, if_pos (by omega : v ≤ v + 4), if_pos (by omega : 0 ≤ v + 4), if_pos (by omega : v + 4 ≤ ((a.extract m a.size).size : Int)), if_pos (by omega : v ≤ ((a.extract m a.size).size : Int)), if_pos (by omega : 0 ≤ (m : Int) + v), if_pos (by omega : (m : Int) + v ≤ (a.size : Int))]
          exact ⟨_, rfl, rfl⟩
        · simp only [if_neg c3, if_pos hv0, if_pos (by omega : v ≤ v + 4), if_pos (by omega : 0 ≤ v + 4), if_pos (by omega : v + 4 ≤ ((a.extract m a.size).size : Int)), if_pos (by omega : v ≤ ((a.extract m a.size).size : Int)), if_pos (by omega : 0 ≤ (m : Int) + v), if_pos (by omega : (m : Int) + v ≤ (a.size : Int))]
          exact ⟨_, rfl, rfl⟩
end Go.Proofs.Ytfjhlcbpogihmaa.Pr
end
section
namespace Go.Proofs.Ytfjhlcbpogihmaa.Pr
open Go.RowKit Go.Proofs.YtfjhlcbpogihmaaW.PrintWords Go.Proofs.YtfjhlcbpogihmaaW.PrintLast Go.Proofs.YtfjhlcbpogihmaaW.PrintMore
set_option linter.unusedVariables false
set_option linter.unusedSimpArgs false
theorem nm_facts {kd i t v : Int} {d : ByteArray} (h : nmayB kd i t v d = true) : (1 ≤ kd ∧ kd ≤ 4) ∧ i ≤ 4611686018427387903 ∧ t ≤ 4611686018427387903 ∧ v ≤ 4611686018427387903 ∧ d.size ≤ 4096 := by
  have hh : (1 ≤ kd ∧ kd ≤ 4) ∧ nmIn i t v d := by
    unfold nmayB nm1 nm2 nm3 at h
    by_cases k1 : kd = 1
    · rw [if_pos k1] at h; exact ⟨by omega, (of_decide_eq_true h).2⟩
    rw [if_neg k1] at h
    by_cases k2 : kd = 2
    · rw [if_pos k2] at h; exact ⟨by omega, (of_decide_eq_true h).2⟩
    rw [if_neg k2] at h
    by_cases k3 : kd = 3
    · rw [if_pos k3] at h; exact ⟨by omega, (of_decide_eq_true h).2⟩
    rw [if_neg k3] at h
    by_cases k4 : kd = 4
    · rw [if_pos k4] at h; exact ⟨by omega, (of_decide_eq_true h).2⟩
    rw [if_neg k4] at h; cases h
  obtain ⟨h1, h2⟩ := hh
  unfold nmIn at h2
  exact ⟨h1, by omega, by omega, by omega, by omega⟩
/-- A note's text. -/
def noteA (kd i t v : Int) (d : ByteArray) : ByteArray := (strOfNums [kd % 256] ++ nsB [3, i, t, v]) ++ d
theorem noteA_le {kd i t v : Int} {d : ByteArray} (h : d.size ≤ 4096) : (noteA kd i t v d).size ≤ 65536 := by
  have h1 := nsB_le [3, i, t, v]
  have h2 : (strOfNums [kd % 256]).size = 1 := strOfNums_size _
  unfold noteA
  simp only [ByteArray.size_append, List.length_cons, List.length_nil] at *
  omega
theorem nbytes_1 {kd i t v : Int} {d : ByteArray} (h : nmayB kd i t v d = true) (g1 : 0 ≤ i) (g2 : 0 ≤ t) (g3 : 0 ≤ v) (k : Nat) : note_Bytes.f k kd i t v d = some (sealB (noteA kd i t v d), 0) := by
  obtain ⟨hk, e1, e2, e3, e4⟩ := nm_facts h
  have hN : pack_Nums.f [i, t, v] = some (nsB [3, i, t, v], 0) := nums_ok [i, t, v] (by simp only [List.mem_cons, List.not_mem_nil, or_false]; rintro x (rfl | rfl | rfl) <;> omega) (by simp)
  have hz := noteA_le (kd := kd) (i := i) (t := t) (v := v) e4
  have hp : seal_Put.f (noteA kd i t v d) = some (sealB (noteA kd i t v d), 0) := put_f hz
  unfold noteA at hz
  rw [ByteArray.size_append, ByteArray.size_append] at hz
  unfold note_Bytes.f note_may.f
  simp only [Option.bind_some, h, if_true, hN]
  rw [if_pos (by omega), if_pos (by rw [ByteArray.size_append]; omega)]
  change (seal_Put.f (noteA kd i t v d)).bind _ = _
  rw [hp]
  rfl
end Go.Proofs.Ytfjhlcbpogihmaa.Pr
end
