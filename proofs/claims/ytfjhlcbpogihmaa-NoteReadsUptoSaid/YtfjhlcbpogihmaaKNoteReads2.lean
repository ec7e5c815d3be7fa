/- Several texts of one depth, laid together. Conditions: none. -/
import Derived.RangeFuncNested
import Derived.RangeFuncBound
import Derived.RangeFuncCalls
import Derived.RangeFuncLeaves
import Derived.Shelf.Abstract
import Derived.Shelf.RegionOpen
import Derived.WalkKit
import Derived.OwnWalkIn
import Derived.TacticsInMore
import Derived.LoopNIn
import Derived.LoopIn
import Derived.Test.YtfjhlcbpogihmaaGNoteReadsPr18
import Derived.Test.YtfjhlcbpogihmaaKNoteReads1
import Derived.Test.YtfjhlcbpogihmaaGNoteReadsPr50
import Derived.Test.YtfjhlcbpogihmaaGNoteReadsPr43
section
namespace Go.Proofs.Ytfjhlcbpogihmaa.Pr
open Go.RowKit Go.Shelf Go.Proofs.YtfjhlcbpogihmaaW.PrintWords Go.Proofs.YtfjhlcbpogihmaaW.PrintLast Go.Proofs.YtfjhlcbpogihmaaW.PrintMore Go.Proofs.Ytfjhlcbpogihmaa.Hnd
attribute [local go_sem] Oper.semAt_some
set_option linter.unusedVariables false
set_option linter.unusedSimpArgs false
/-- The sealed texts in a text, one behind the other. -/
def allF (k : Nat) : Nat → ByteArray → Option (List ByteArray)
  | 0, _ => none
  | m + 1, b => (seal_Take.f k b).bind fun r => if r.2.2 = 0 then (if r.2.1.size < b.size then (allF k m r.2.1).map (r.1 :: ·) else none) else some []
def strSize : Value → Nat
  | .string s => s.size
  | _ => 0
theorem below_grown' {w w' : World} (h : Below w.heap.size w w') : w.grownBy w' none := ⟨h.os, h.tape, h.output, h.size, fun k hk _ => h.block k hk⟩
set_option maxRecDepth 100000 in
set_option maxHeartbeats 2000000 in
theorem all1_in {α : Type} (g : α → ByteArray) (k m : Nat) (n : Nat) (hn : 1 ≤ n) (l Bs : Nat) (b : ByteArray) (L : List α) (hL : allF k m b = some (L.map g))
    (J Jx : List α → World → Prop) (B0 : Nat) (hJA : AbidesFrom B0 J)
    (hY : ∀ pre x W, J pre W → pre.length < L.length → YieldAt Fence.wide (n - 1) Try.prog l #[.string (g x)] W fun e W' =>
      (e = .returned (.bool true) ∧ J (pre ++ [x]) W' ∧ True) ∨ (e = .returned (.bool false) ∧ Jx (pre ++ [x]) W'))
    (W : World) (hBs : W.heap[Bs]? = some (.cells #[.string b] 9 (0, 0))) (hJ0 : J [] W) :
    CallsIn Fence.wide n Try.prog 82 #[.func (.yield l) #[] #[], .pointer (some ⟨Bs, 0, none⟩)] W fun e W' => (∃ v, e = .returned v) ∧
      ((∃ ys, ys = L ∧ J ys W') ∨ (∃ pre, pre <+: L ∧ Jx pre W')) := by
  have z0 := blk_cell hBs 0
  refine callsIn_of_wp Try.func82 rfl trivial ?_ rfl
  simp only [Try.ntmps82, List.size_toArray, List.length_cons, List.length_nil, Nat.reduceAdd, Nat.reduceSub, Array.replicate_succ, Array.replicate_zero, List.push_toArray, List.append_toArray, List.nil_append, List.cons_append]
  gi_wp2
  gi_loopw [3, 4, 5, 6] (fun v3 v4 v5 v6 wr => ∃ (pre : List α) (r : ByteArray) (m' : Nat) (L' : List α), v3 = .string r ∧ allF k m' r = some (L'.map g) ∧ L = pre ++ L' ∧ J pre wr)
    (fun v3 _ _ _ _ => strSize v3)
  case atStart => exact ⟨[], b, m, L, rfl, hL, rfl, hJ0⟩
  case round =>
    obtain ⟨pre, r, m', L', rfl, hA, hLL, hJs⟩ := hrel
    have hA0 := hA
    match m', hA with
    | 0, hA => exact absurd hA (by simp [allF])
    | m' + 1, hA =>
      unfold allF at hA
      replace hA := Option.bind_eq_some_iff.mp hA
      obtain ⟨⟨s, rest, er⟩, hT, hA⟩ := hA
      dsimp only at hA
      clear hA0
      gi_wp2
      refine ⟨trivial, ((callsIn_wide (n := n - 1)).2 (seal_Take.calls k r s rest er _ hT)).mono ?_⟩
      rintro e w1 ⟨rfl, hb⟩
      have hJ1 : J pre w1 := hJA pre wr w1 none hJs (below_grown' hb) (fun r e => by cases e)
      by_cases her : er = 0
      · rw [if_pos her] at hA
        by_cases hsz : rest.size < r.size
        rotate_left
        · rw [if_neg hsz] at hA; cases hA
        rw [if_pos hsz] at hA
        obtain ⟨L2s, hL2s, hAm⟩ := Option.map_eq_some_iff.1 hA
        obtain ⟨x, L2, rfl, hgx, hL2e⟩ : ∃ x L2, L' = x :: L2 ∧ g x = s ∧ L2.map g = L2s := by
          cases L' with
          | nil => cases hAm
          | cons x L2 => simp only [List.map_cons, List.cons.injEq] at hAm; exact ⟨x, L2, rfl, hAm.1.symm, hAm.2.symm⟩
        have hL2 : allF k m' rest = some (L2.map g) := by rw [hL2e]; exact hL2s
        have hneb : (er != 0) = false := by rw [her]; rfl
        have hY' := hY pre x w1 hJ1 (by rw [hLL, List.length_append, List.length_cons]; omega)
        rw [hgx] at hY'
        obtain ⟨fn, tmps, assign, body, hy, hR⟩ := hY'
        subst her
        gi_wp2
        refine hR.mono ?_
        rintro e W3 (⟨rfl, hJ3, _⟩ | ⟨rfl, hJx3⟩)
        · gi_wp2
          go_roundw
          case rel => exact ⟨pre ++ [x], rest, m', L2, rfl, hL2, by rw [hLL, List.append_assoc]; rfl, hJ3⟩
          case measure =>
            show strSize (.string rest) < strSize (.string r)
            exact hsz
        · gi_wp2
          refine bodyPost_ret (results_none rfl _ _ _) rfl ?_
          exact ⟨⟨_, rfl⟩, .inr ⟨_, ⟨L2, by rw [hLL, List.append_assoc]; rfl⟩, hJx3⟩⟩
      · rw [if_neg her] at hA
        obtain rfl : L' = [] := List.map_eq_nil_iff.1 (Option.some.inj hA).symm
        have hneb : (er != 0) = true := bne_iff_ne.mpr her
        gi_wp2
        refine ⟨(fun f h => by cases h), ?_⟩
        gi_wp2
        refine bodyPost_ret (results_none rfl _ _ _) rfl ?_
        exact ⟨⟨_, rfl⟩, .inl ⟨pre, by rw [hLL, List.append_nil], hJ1⟩⟩
/-- seal.All: the text is boxed; the function value captures the box. -/
theorem all_in (n : Nat) (b : ByteArray) (w : World) :
    CallsIn Fence.wide n Try.prog 51 #[.string b] w fun e w' => e = .returned (.func (.func 82) #[] #[.pointer (some ⟨w.heap.size, 0, none⟩)]) ∧ w' = w.alloc (.cells #[.string b] 9) := by
  refine callsIn_of_wp Try.func51 rfl trivial ?_ rfl
  simp only [Try.ntmps51, List.size_toArray, List.length_cons, List.length_nil, Nat.reduceAdd, Nat.reduceSub, Array.replicate_succ, Array.replicate_zero, List.push_toArray, List.append_toArray, List.nil_append, List.cons_append]
  gi_wp2
  go_ret
  exact ⟨rfl, rfl⟩
/-- .. tells the sealed texts, and stops. -/
theorem all_stops {α : Type} (g : α → ByteArray) (k m : Nat) (n : Nat) (hn : 1 ≤ n) (Bs : Nat) (b : ByteArray) (L : List α) (hL : allF k m b = some (L.map g)) (w : World) (hBs : w.heap[Bs]? = some (.cells #[.string b] 9 (0, 0))) :
    SeqStopsK Fence.wide n Try.prog 82 #[.pointer (some ⟨Bs, 0, none⟩)] (fun x : α => #[.string (g x)]) (fun _ _ => True) (fun ys => ys = L) (fun pre => pre <+: L) L.length w := fun l J Jx W hW hJ hJx hY h0 =>
  all1_in g k m n hn l Bs b L hL J Jx W.heap.size hJ hY W (blk_below hBs hW) h0
theorem allF_mono (k : Nat) : ∀ m b, LeO (allF k m b) (allF (k + 1) m b)
  | 0, _ => LeO.refl _
  | m + 1, b => LeO.bind (seal_Take.mono _ _) (fun r => LeO.ite (LeO.ite (LeO.map _ (allF_mono k m _)) (LeO.refl _)) (LeO.refl _))
theorem inU64_wrapW (x : Int) : inU64 (IntKind.u64.wrap x) := by
  unfold inU64
  simp [IntKind.wrap, IntKind.signed, IntKind.bits]
  omega
end Go.Proofs.Ytfjhlcbpogihmaa.Pr
end
section
namespace Go.Proofs.Ytfjhlcbpogihmaa.Pr
open Go.RowKit Go.Proofs.YtfjhlcbpogihmaaW.PrintWords Go.Proofs.YtfjhlcbpogihmaaW.PrintLast Go.Proofs.YtfjhlcbpogihmaaW.PrintMore
set_option linter.unusedVariables false
set_option linter.unusedSimpArgs false
theorem wrap64_in' {x : Int} (h0 : -9223372036854775808 ≤ x) (h1 : x < 9223372036854775808) : wrap64 x = x := by
  simp [wrap64]
  omega
theorem ext_all {a : ByteArray} {n : Nat} (h : a.size ≤ n) : a.extract 0 n = a := by
  ext1
  simp only [ByteArray.data_extract]
  exact Array.extract_eq_self_of_le h
theorem stake (K : Nat) (hd x : ByteArray) (n : Nat) (hT : pack_TakeNum.f K (hd ++ x) = some ((n : Int), x, 0)) (hn : n ≤ 65536) (ha : (hd ++ x).size ≤ 4611686018427387904) :
    seal_Take.f K (hd ++ x) = if x.size < n + 4 then some ((⟨#[]⟩ : ByteArray), (⟨#[]⟩ : ByteArray), 2) else if (tailB (sumI (hd ++ x.extract 0 n))).toList = (x.extract n (n + 4)).toList then some (x.extract 0 n, x.extract (n + 4) x.size, 0) else some ((⟨#[]⟩ : ByteArray), (⟨#[]⟩ : ByteArray), 3) := by
  have hsz : (hd ++ x).size = hd.size + x.size := ByteArray.size_append
  unfold seal_Take.f
  rw [hT]
  simp only [Option.bind_some, if_true]
  rw [if_neg (by omega), wrap_in (x := (n : Int) + 4) (by omega) (by omega), wrap_in (x := (x.size : Int)) (by omega) (by omega)]
  by_cases c : x.size < n + 4
  · rw [if_pos c, if_pos (by omega)]
  · rw [if_neg c, if_neg (by omega)]
    have e1 : ((n : Int) + 4).toNat = n + 4 := by omega
    have e2 : (x.extract (n + 4) x.size).size = x.size - (n + 4) := by rw [ByteArray.size_extract]; omega
    rw [e1, e2]
    have e3 : wrap64 (wrap64 (((hd ++ x).size : Int) - ((x.size - (n + 4) : Nat) : Int)) - 4) = ((hd.size + n : Nat) : Int) := by
      rw [wrap64_in' (x := ((hd ++ x).size : Int) - _) (by omega) (by omega), wrap64_in' (by omega) (by omega)]
      omega
    rw [e3, Int.toNat_natCast, Int.toNat_natCast]
    have e4 : (hd ++ x).extract 0 (hd.size + n) = hd ++ x.extract 0 n := by
      rw [ByteArray.extract_append, ext_all (by omega)]
      rw [show 0 - hd.size = 0 from by omega, show hd.size + n - hd.size = n from by omega]
    rw [e4, if_pos (by omega), if_pos (by omega), if_pos (by omega), if_pos (by omega), if_pos (by omega), if_pos (by omega), sum_f _ (by rw [ByteArray.size_append, ByteArray.size_extract]; omega)]
    simp only [Option.bind_some]
    rw [tail_f]
    simp only [Option.bind_some]
    rw [if_pos (by omega)]
end Go.Proofs.Ytfjhlcbpogihmaa.Pr
end
section
namespace Go.Proofs.Ytfjhlcbpogihmaa.Pr
open Go.RowKit Go.Proofs.YtfjhlcbpogihmaaW.PrintWords Go.Proofs.YtfjhlcbpogihmaaW.PrintLast Go.Proofs.YtfjhlcbpogihmaaW.PrintMore
set_option linter.unusedVariables false
set_option linter.unusedSimpArgs false
/-- A sealed text. -/
def sealB (s : ByteArray) : ByteArray := headB s ++ tailB (sumI (headB s))
theorem sealB_size (s : ByteArray) : ((sealB s).size : Int) = sizeI (s.size : Int) + s.size + 4 := by
  unfold sealB
  rw [ByteArray.size_append]
  have := headB_size s
  have := tailB_size (sumI (headB s))
  omega
theorem extract_two (a : ByteArray) (n : Nat) (h : n ≤ a.size) : a.extract 0 n ++ a.extract n a.size = a := by
  ext1
  simp only [ByteArray.data_append, ByteArray.data_extract]
  have h2 : n ≤ a.data.size := h
  show a.data.extract 0 n ++ a.data.extract n a.data.size = a.data
  rw [Array.extract_append_extract]
  simp
  right
  omega
/-- Whatever bytes there are: something is answered, and what is left is shorter. -/
theorem take_total (a : ByteArray) (h : a.size ≤ 4611686018427387904) : ∃ r, seal_Take.f 20 a = some r ∧ (r.2.2 = 0 → r.2.1.size < a.size) := by
  rcases take_full a with ⟨er, her, hf⟩ | ⟨m, v, hm1, hm8, hm, hf, hi, hv, hL, hshort⟩
  · refine ⟨((⟨#[]⟩ : ByteArray), (⟨#[]⟩ : ByteArray), er), ?_, fun h => absurd h her⟩
    unfold seal_Take.f
    rw [hf]
    simp only [Option.bind_some]
    rw [if_neg her]
  · by_cases hb : v > 65536
    · refine ⟨((⟨#[]⟩ : ByteArray), (⟨#[]⟩ : ByteArray), 4), ?_, fun h => absurd h (by decide)⟩
      unfold seal_Take.f
      rw [hf]
      simp only [Option.bind_some, if_true]
      rw [if_pos (by omega)]
    · unfold inU64 at hi
      obtain ⟨n, rfl⟩ : ∃ n : Nat, v = (n : Int) := ⟨v.toNat, by omega⟩
      have e := extract_two a m hm
      have hz : (a.extract m a.size).size = a.size - m := by rw [ByteArray.size_extract]; omega
      have hs := stake 20 (a.extract 0 m) (a.extract m a.size) n (by rw [e]; exact hf) (by omega) (by rw [e]; exact h)
      rw [e] at hs
      rw [hs]
      split
      · exact ⟨_, rfl, fun h => absurd h (by decide)⟩
      · split
        · refine ⟨_, rfl, fun _ => ?_⟩
          rw [ByteArray.size_extract]
          omega
        · exact ⟨_, rfl, fun h => absurd h (by decide)⟩
end Go.Proofs.Ytfjhlcbpogihmaa.Pr
end
section
namespace Go.Proofs.Ytfjhlcbpogihmaa.Pr
open Go.RowKit Go.Proofs.YtfjhlcbpogihmaaW.PrintWords Go.Proofs.YtfjhlcbpogihmaaW.PrintLast Go.Proofs.YtfjhlcbpogihmaaW.PrintMore
set_option linter.unusedVariables false
set_option linter.unusedSimpArgs false
/-! The bytes. -/
end Go.Proofs.Ytfjhlcbpogihmaa.Pr
end
section
namespace Go.Proofs.Ytfjhlcbpogihmaa.Pr
open Go.RowKit Go.Proofs.YtfjhlcbpogihmaaW.PrintWords Go.Proofs.YtfjhlcbpogihmaaW.PrintLast Go.Proofs.YtfjhlcbpogihmaaW.PrintMore
set_option linter.unusedVariables false
set_option linter.unusedSimpArgs false
theorem toNil5 {a : ByteArray} : (a.toList == ([] : List UInt8)) = decide ((a.size : Int) = 0) := by
  have h := toList_nil (a := a)
  by_cases c : (a.size : Int) = 0
  · rw [decide_eq_true c, h.2 c]; rfl
  · rw [decide_eq_false c]
    simpa using fun e => c (h.1 e)
/-- What stands behind the loop. -/
theorem seal_same (a : ByteArray) (ha : a.size ≤ 140737488351232) : ∃ r, seal_Take.f (a.size + 30) a = some r ∧ ferruleref02_Take.f (a.size + 30) a = some r := by
  obtain ⟨r, h1, h2⟩ := take_both a
  have g1 := up (fun k => pack_TakeNum.f k a) (fun k => pack_TakeNum.mono _ k) h1 (by omega : 20 ≤ a.size + 30)
  have g2 := up (fun k => ferruleref01_TakeNum.f k a) (fun k => ferruleref01_TakeNum.mono _ k) h2 (by omega : 20 ≤ a.size + 30)
  try simp only at g1 g2
  unfold seal_Take.f ferruleref02_Take.f
  rw [g1, g2]
  simp only [Option.bind_some]
  rcases take_full a with ⟨e, he, hf⟩ | ⟨m, v, hm1, hm8, hm, hf, hi, hv, hL, hshort⟩
  · rw [hf] at h1
    obtain rfl := Option.some.inj h1
    try simp only
    rw [if_neg he, if_neg he]
    exact ⟨_, rfl, rfl⟩
  · rw [hf] at h1
    obtain rfl := Option.some.inj h1
    try simp only
    have hv0 := hi.1
    have hrs : (a.extract m a.size).size = a.size - m := by rw [ByteArray.size_extract]; omega
    rw [if_true, if_true]
    by_cases c1 : v > 65536
    · rw [if_pos c1, if_pos c1]
      exact ⟨_, rfl, rfl⟩
    · rw [if_neg c1, if_neg c1]
      rw [wrap_in (x := v + 4) (by omega) (by omega), wrap_in (x := ((a.extract m a.size).size : Int)) (by omega) (by omega)]
      by_cases c2 : v + 4 > ((a.extract m a.size).size : Int)
      · rw [if_pos c2, if_pos c2]
        exact ⟨_, rfl, rfl⟩
      · rw [if_neg c2, if_neg c2]
        have has : ((a.extract m a.size).extract (v + 4).toNat (a.extract m a.size).size).size = (a.size - m) - (v + 4).toNat := by rw [ByteArray.size_extract]; omega
        have hA : wrap64 (wrap64 ((a.size : Int) - (((a.extract m a.size).extract (v + 4).toNat (a.extract m a.size).size).size : Int)) - 4) = m + v := by
          rw [has, wrap64_big (x := (a.size : Int) - (((a.size - m) - (v + 4).toNat : Nat) : Int)) (by omega) (by omega), wrap64_big (by omega) (by omega)]
          omega
        have hB : wrap64 (wrap64 ((a.size : Int) - ((a.extract m a.size).size : Int)) + wrap64 v) = m + v := by
          rw [hrs, wrap64_big (x := (a.size : Int) - ((a.size - m : Nat) : Int)) (by omega) (by omega), wrap64_big (x := v) (by omega) (by omega), wrap64_big (by omega) (by omega)]
          omega
        rw [hA, hB]
        have hes : (a.extract 0 ((m : Int) + v).toNat).size ≤ a.size := by rw [ByteArray.size_extract]; omega
        rw [if_pos hv0, if_pos (by omega), if_pos (by omega), if_pos (by omega), if_pos (by omega), if_pos (by omega), sum_f _ (by omega), rsum_f _ (by omega) _ (by omega)]
        simp only [Option.bind_some]
        rw [tail_f, four_f (sumI_range _).1]
        simp only [Option.bind_some]
        generalize tailB (sumI (a.extract 0 ((m : Int) + v).toNat)) = t
        by_cases c3 : t.toList = ((a.extract m a.size).extract v.toNat (v + 4).toNat).toList
        · simp only [if_pos c3, if_pos hv0, if_pos (by omega : v ≤ v + 4), if_pos (by omega : 0 ≤ v + 4), if_pos (by omega : v + 4 ≤ ((a.extract m a.size).size : Int)), if_pos (by omega : v ≤ ((a.extract m a.size).size : Int)), if_pos (by omega : 0 ≤ (m : Int) + v), if_pos (by omega : (m : Int) + v ≤ (a.size : Int))]
          exact ⟨_, rfl, rfl⟩
        · simp only [if_neg c3, if_pos hv0, if_pos (by omega : v ≤ v + 4), if_pos (by omega : 0 ≤ v + 4), if_pos (by omega : v + 4 ≤ ((a.extract m a.size).size : Int)), if_pos (by omega : v ≤ ((a.extract m a.size).size : Int)), if_pos (by omega : 0 ≤ (m : Int) + v), if_pos (by omega : (m : Int) + v ≤ (a.size : Int))]
          exact ⟨_, rfl, rfl⟩
theorem tnum_all (a : ByteArray) : ∃ r, Ev (fun k => pack_TakeNum.f k a) r ∧ Ev (fun k => ferruleref01_TakeNum.f k a) r ∧ inU64 r.1 := by
  obtain ⟨r, h1, h2, h3, _⟩ := take_all a
  exact ⟨r, h1, h2, h3⟩
theorem few_both (N : Int) (hN : N < 18446744073709551616) : ∀ (n : Nat) (s : ByteArray) (out : List Int) (i : Nat), out.length + n ≤ 100 → (i : Int) + n = N → (∀ x ∈ out, 0 ≤ x) →
    ∃ r, Ev (fun k => severalF k n s out) r ∧ Ev (fun k => ferruleref01_TakeNums.l0 k N s out (i : Int)) r ∧ (∀ x ∈ r.1, 0 ≤ x)
  | 0, s, out, i, hb, hi, h0 => by
    refine ⟨(out, s, 0), Ev.congr (f := fun _ => some (out, s, 0)) (fun k => by rw [severalF]) (Ev.now _), ?_, h0⟩
    exact Ev.step (f := fun _ => some (out, s, 0)) (fun k => by rw [ferruleref01_TakeNums.l0, if_neg (by omega)]) (Ev.now _)
  | n + 1, s, out, i, hb, hi, h0 => by
    obtain ⟨r, h1, h2, hu⟩ := tnum_all s
    have hwi : IntKind.u64.wrap ((i : Int) + 1) = ((i + 1 : Nat) : Int) := by simp [IntKind.wrap, IntKind.signed, IntKind.bits]; omega
    by_cases he : r.2.2 = 0
    · obtain ⟨q, q1, q2, q3⟩ := few_both N hN n r.2.1 (out ++ [r.1]) (i + 1) (by rw [List.length_append, List.length_singleton]; omega) (by omega) (fun x hx => by
        rcases List.mem_append.1 hx with hx | hx
        · exact h0 x hx
        · rw [List.mem_singleton.1 hx]; exact hu.1)
      refine ⟨q, ?_, ?_, q3⟩
      · refine Ev.congr (f := fun k => (pack_TakeNum.f k s).bind fun b => if b.2.2 = 0 then (if out.length < 17592186044415 then severalF k n b.2.1 (out ++ [b.1]) else none) else some ([], (⟨#[]⟩ : ByteArray), b.2.2)) (fun k => by rw [severalF]) ?_
        refine Ev.bind h1 ?_
        refine Ev.congr (fun k => ?_) q1
        rw [if_pos he, if_pos (by omega)]
      · refine Ev.step (f := fun k => (ferruleref01_TakeNum.f k s).bind fun bt120 => (if bt120.2.2 = 0 then (if out.length < 17592186044416 then (ferruleref01_TakeNums.l0 k N bt120.2.1 (out ++ [bt120.1]) (IntKind.u64.wrap ((i : Int) + 1))) else (none)) else (some (([] : List Int), (⟨#[]⟩ : ByteArray), bt120.2.2)))) (fun k => by rw [ferruleref01_TakeNums.l0, if_pos (by omega)]) ?_
        refine Ev.bind h2 ?_
        refine Ev.congr (fun k => ?_) q2
        rw [if_pos he, if_pos (by omega), hwi]
    · refine ⟨([], (⟨#[]⟩ : ByteArray), r.2.2), ?_, ?_, by simp⟩
      · refine Ev.congr (f := fun k => (pack_TakeNum.f k s).bind fun b => if b.2.2 = 0 then (if out.length < 17592186044415 then severalF k n b.2.1 (out ++ [b.1]) else none) else some ([], (⟨#[]⟩ : ByteArray), b.2.2)) (fun k => by rw [severalF]) ?_
        refine Ev.bind h1 ?_
        exact Ev.congr (f := fun _ => some ([], (⟨#[]⟩ : ByteArray), r.2.2)) (fun k => by rw [if_neg he]) (Ev.now _)
      · refine Ev.step (f := fun k => (ferruleref01_TakeNum.f k s).bind fun bt120 => (if bt120.2.2 = 0 then (if out.length < 17592186044416 then (ferruleref01_TakeNums.l0 k N bt120.2.1 (out ++ [bt120.1]) (IntKind.u64.wrap ((i : Int) + 1))) else (none)) else (some (([] : List Int), (⟨#[]⟩ : ByteArray), bt120.2.2)))) (fun k => by rw [ferruleref01_TakeNums.l0, if_pos (by omega)]) ?_
        refine Ev.bind h2 ?_
        exact Ev.congr (f := fun _ => some ([], (⟨#[]⟩ : ByteArray), r.2.2)) (fun k => by rw [if_neg he]) (Ev.now _)
/-- A few numbers are taken alike; none is below nought. -/
theorem few_take (a : ByteArray) (most : Int) (hm0 : 0 ≤ most) (hm1 : most ≤ 90) : ∃ r, Ev (fun k => pack_TakeNums.f k a most) r ∧ Ev (fun k => ferruleref01_TakeNums.f k a most) r ∧ (∀ x ∈ r.1, 0 ≤ x) := by
  obtain ⟨r, h1, h2, hu⟩ := tnum_all a
  have hin : inU r.1 = true := by
    unfold inU
    obtain ⟨h3, h4⟩ := hu
    rw [decide_eq_true h3, decide_eq_true (by omega)]
    rfl
  have hmw : IntKind.u64.wrap most = most := by simp [IntKind.wrap, IntKind.signed, IntKind.bits]; omega
  by_cases he : r.2.2 = 0
  · by_cases hg : r.1 > IntKind.u64.wrap most
    · refine ⟨([], (⟨#[]⟩ : ByteArray), 4), ?_, ?_, by simp⟩
      · refine Ev.bind h1 ?_
        exact Ev.congr (f := fun _ => some ([], (⟨#[]⟩ : ByteArray), 4)) (fun k => by rw [if_pos hin, if_pos he, if_neg (by omega), if_pos hg]) (Ev.now _)
      · refine Ev.bind h2 ?_
        refine Ev.congr (f := fun k => ferruleref01_TakeNums.j0 k r.1 r.2.1 true) (fun k => by rw [if_pos he, if_neg (by omega), decide_eq_true hg]) ?_
        exact Ev.step (f := fun _ => some ([], (⟨#[]⟩ : ByteArray), 4)) (fun k => by rw [ferruleref01_TakeNums.j0, if_pos rfl]) (Ev.now _)
    · obtain ⟨q, q1, q2, q3⟩ := few_both r.1 (by have := hu.2; omega) r.1.toNat r.2.1 [] 0 (by rw [hmw] at hg; simp; omega) (by have := hu.1; omega) (by simp)
      refine ⟨q, ?_, ?_, q3⟩
      · refine Ev.bind h1 ?_
        exact Ev.congr (fun k => by rw [if_pos hin, if_pos he, if_neg (by omega), if_neg hg]) q1
      · refine Ev.bind h2 ?_
        refine Ev.congr (f := fun k => ferruleref01_TakeNums.j0 k r.1 r.2.1 false) (fun k => by rw [if_pos he, if_neg (by omega), decide_eq_false hg]) ?_
        exact Ev.step (f := fun k => ferruleref01_TakeNums.l0 k r.1 r.2.1 [] 0) (fun k => by rw [ferruleref01_TakeNums.j0, if_neg (by decide)]) q2
  · refine ⟨([], (⟨#[]⟩ : ByteArray), r.2.2), ?_, ?_, by simp⟩
    · refine Ev.bind h1 ?_
      exact Ev.congr (f := fun _ => some ([], (⟨#[]⟩ : ByteArray), r.2.2)) (fun k => by rw [if_pos hin, if_neg he]) (Ev.now _)
    · refine Ev.bind h2 ?_
      exact Ev.congr (f := fun _ => some ([], (⟨#[]⟩ : ByteArray), r.2.2)) (fun k => by rw [if_neg he]) (Ev.now _)
end Go.Proofs.Ytfjhlcbpogihmaa.Pr
end
section
namespace Go.Proofs.Ytfjhlcbpogihmaa.Pr
open Go.RowKit Go.Proofs.YtfjhlcbpogihmaaW.PrintWords Go.Proofs.YtfjhlcbpogihmaaW.PrintLast Go.Proofs.YtfjhlcbpogihmaaW.PrintMore
attribute [local go_sem] max2_int min2_int max_two min_two max_three min_three max_four min_four
set_option linter.unusedVariables false
set_option linter.unusedSimpArgs false
/-! ### ferruleref04_Bytes: function 36 -/
def ferruleref04_Bytes.f (k : Nat) (a0_0 : Int) (a0_1 : Int) (a0_2 : Int) (a0_3 : Int) (a0_4 : ByteArray) : Option (ByteArray × Int) := (ferruleref04_NoteMay.f k a0_0 a0_1 a0_2 a0_3 a0_4).bind fun t440 => (if t440 = true then ((ref_Nums.f k (([a0_1, a0_2, a0_3] : List Int))).bind fun bt444 => ((some (([(a0_0) % 256] : List Int) : List Int)).bind fun y446 => (if (strOfNums y446).size + bt444.1.size ≤ 9223372036854775807 then (if ((strOfNums y446) ++ bt444.1).size + a0_4.size ≤ 9223372036854775807 then ((ferruleref02_Put.f k (((strOfNums y446) ++ bt444.1) ++ a0_4)).bind fun bt449 => (some (bt449.1, bt449.2))) else (none)) else (none)))) else (some ((⟨#[]⟩ : ByteArray), 1)))
end Go.Proofs.Ytfjhlcbpogihmaa.Pr
end
section
namespace Go.Proofs.Ytfjhlcbpogihmaa.Pr
open Go.RowKit Go.Proofs.YtfjhlcbpogihmaaW.PrintWords Go.Proofs.YtfjhlcbpogihmaaW.PrintLast Go.Proofs.YtfjhlcbpogihmaaW.PrintMore
set_option linter.unusedVariables false
set_option linter.unusedSimpArgs false
theorem rnmay_f (kd i t v : Int) (d : ByteArray) (k : Nat) : ferruleref04_NoteMay.f (k + 2) kd i t v d = some (nmayB kd i t v d) := by
  have j0t : ferruleref04_NoteMay.j0 (k + 2) true kd i t v d = some false := by rw [ferruleref04_NoteMay.j0, if_pos rfl]
  have no : ∀ b : Bool, ¬ nmIn i t v d → nmayB kd i t v d = false := fun _ h => by
    unfold nmayB nm1 nm2 nm3
    repeat' split
    all_goals first | rfl | exact decide_eq_false (fun c => h c.2)
  unfold ferruleref04_NoteMay.f
  by_cases c1 : i > 4611686018427387903
  · rw [if_pos c1, j0t, no true (fun h => by unfold nmIn at h; omega)]
  rw [if_neg c1]
  by_cases c2 : t > 4611686018427387903
  · rw [if_pos c2, j0t, no true (fun h => by unfold nmIn at h; omega)]
  rw [if_neg c2]
  by_cases c3 : v > 4611686018427387903
  · rw [if_pos c3, j0t, no true (fun h => by unfold nmIn at h; omega)]
  rw [if_neg c3]
  by_cases c4 : (d.size : Int) > 4096
  · rw [decide_eq_true c4, j0t, no true (fun h => by unfold nmIn at h; omega)]
  rw [decide_eq_false c4, ferruleref04_NoteMay.j0, if_neg (by decide)]
  have hin : nmIn i t v d := ⟨by omega, by omega, by omega, by omega⟩
  unfold nmayB nm1 nm2 nm3
  simp only [hin, and_true]
  by_cases k1 : kd = 1
  · rw [if_pos k1, if_pos k1]
    by_cases c : i = 0
    · rw [if_pos c]
      exact congrArg some (Bool.eq_iff_iff.2 (by rw [beq_iff_eq, decide_eq_true_iff]; exact ⟨fun h => ⟨c.symm, h⟩, fun h => h.2⟩))
    · rw [if_neg c, decide_eq_false (show ¬ nmP1 i t v d from fun h => c h.1.symm)]
  rw [if_neg k1, if_neg k1]
  by_cases k2 : kd = 2
  · subst k2
    rw [if_pos rfl, if_pos rfl, ferruleref04_NoteMay.j1, if_pos (by decide)]
    exact congrArg some (Bool.eq_iff_iff.2 (by rw [beq_iff_eq, decide_eq_true_iff]; exact eq_comm))
  rw [if_neg k2, if_neg k2]
  by_cases k4 : kd = 4
  · subst k4
    rw [ferruleref04_NoteMay.j1, if_pos (by decide)]
    exact congrArg some (Bool.eq_iff_iff.2 (by rw [beq_iff_eq, if_neg (by decide), if_pos rfl, decide_eq_true_iff]; exact eq_comm))
  rw [beq_eq_false_iff_ne.2 k4, ferruleref04_NoteMay.j1, if_neg (by decide)]
  by_cases k3 : kd = 3
  · rw [if_pos k3, if_pos k3]
    by_cases c : t = 0
    · rw [if_pos c]
      by_cases c' : v = 0
      · rw [if_pos c']
        exact congrArg some (Bool.eq_iff_iff.2 (by rw [beq_iff_eq, decide_eq_true_iff]; exact ⟨fun h => ⟨c.symm, c'.symm, h⟩, fun h => h.2.2⟩))
      · rw [if_neg c', decide_eq_false (show ¬ nmP3 i t v d from fun h => c' h.2.1.symm)]
    · rw [if_neg c, decide_eq_false (show ¬ nmP3 i t v d from fun h => c h.1.symm)]
  · rw [if_neg k3, if_neg k3, if_neg k4]
end Go.Proofs.Ytfjhlcbpogihmaa.Pr
end
