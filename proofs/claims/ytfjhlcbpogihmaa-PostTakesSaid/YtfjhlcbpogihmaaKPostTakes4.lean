/- Several texts of one depth, laid together. Conditions: none. -/
import Derived.Test.YtfjhlcbpogihmaaKPostTakes3
import Derived.Test.YtfjhlcbpogihmaaGPostTakesPr57
import Derived.Test.YtfjhlcbpogihmaaGPostTakesPr59
namespace Go.Proofs.Ytfjhlcbpogihmaa.Pr
open Go.RowKit Go.Proofs.YtfjhlcbpogihmaaW.PrintWords Go.Proofs.YtfjhlcbpogihmaaW.PrintLast Go.Proofs.YtfjhlcbpogihmaaW.PrintMore
set_option linter.unusedVariables false
set_option linter.unusedSimpArgs false
theorem seal_same (a : ByteArray) (ha : a.size ≤ 140737488351232) : ∃ r, seal_Take.f (a.size + 30) a = some r ∧ ferruleref02_Take.f (a.size + 30) a = some r := by
  obtain ⟨r, h1, h2⟩ := take_both a
  have g1 := up (fun k => pack_TakeNum.f k a) (fun k => pack_TakeNum.mono _ k) h1 (by omega : 20 ≤ a.size + 30)
  have g2 := up (fun k => ferruleref01_TakeNum.f k a) (fun k => ferruleref01_TakeNum.mono _ k) h2 (by omega : 20 ≤ a.size + 30)
  try simp only at g1 g2
  unfold seal_Take.f ferruleref02_Take.f
  rw [g1, g2]
  simp only [Option.bind_some]
  rcases take_full a with ⟨e, he, hf⟩ | ⟨m, v, hm1, hm8, hm, hf, hi, hv, hL, hshort⟩
  · rw [hf] at h1
    obtain rfl := Option.some.inj h1
    try simp only
    rw [if_neg he, if_neg he]
    exact ⟨_, rfl, rfl⟩
  · rw [hf] at h1
    obtain rfl := Option.some.inj h1
    try simp only
    have hv0 := hi.1
    have hrs : (a.extract m a.size).size = a.size - m := by rw [ByteArray.size_extract]; omega
    rw [if_true, if_true]
    by_cases c1 : v > 65536
    · rw [if_pos c1, if_pos c1]
      exact ⟨_, rfl, rfl⟩
    · rw [if_neg c1, if_neg c1]
      rw [wrap_in (x := v + 4) (by omega) (by omega), wrap_in (x := ((a.extract m a.size).size : Int)) (by omega) (by omega)]
      by_cases c2 : v + 4 > ((a.extract m a.size).size : Int)
      · rw [if_pos c2, if_pos c2]
        exact ⟨_, rfl, rfl⟩
      · rw [if_neg c2, if_neg c2]
        have has : ((a.extract m a.size).extract (v + 4).toNat (a.extract m a.size).size).size = (a.size - m) - (v + 4).toNat := by rw [ByteArray.size_extract]; omega
        have hA : wrap64 (wrap64 ((a.size : Int) - (((a.extract m a.size).extract (v + 4).toNat (a.extract m a.size).size).size : Int)) - 4) = m + v := by
          rw [has, wrap64_big (x := (a.size : Int) - (((a.size - m) - (v + 4).toNat : Nat) : Int)) (by omega) (by omega), wrap64_big (by omega) (by omega)]
          omega
        have hB : wrap64 (wrap64 ((a.size : Int) - ((a.extract m a.size).size : Int)) + wrap64 v) = m + v := by
          rw [hrs, wrap64_big (x := (a.size : Int) - ((a.size - m : Nat) : Int)) (by omega) (by omega), wrap64_big (x := v) (by omega) (by omega), wrap64_big (by omega) (by omega)]
          omega
        rw [hA, hB]
        have hes : (a.extract 0 ((m : Int) + v).toNat).size ≤ a.size := by rw [ByteArray.size_extract]; omega
        rw [if_pos hv0, if_pos (by omega), if_pos (by omega), if_pos (by omega), if_pos (by omega), if_pos (by omega), sum_f _ (by omega), rsum_f _ (by omega) _ (by omega)]
        simp only [Option.bind_some]
        rw [tail_f, four_f (sumI_range _).1]
        simp only [Option.bind_some]
        generalize tailB (sumI (a.extract 0 ((m : Int) + v).toNat)) = t
        by_cases c3 : t.toList = ((a.extract m a.size).extract v.toNat (v + 4).toNat).toList
        · simp only [if_pos c3, if_pos hv0, if_pos (by omega : v ≤ v + 4), if_pos (by omega : 0 ≤ v + 4), if_pos (by omega : v + 4 ≤ ((a.extract m a.size).size : Int)), if_pos (by omega : v ≤ ((a.extract m a.size).size : Int)), if_pos (by omega : 0 ≤ (m : Int) + v), if_pos (by omega : (m : Int) + v ≤ (a.size : Int))]
          exact ⟨_, rfl, rfl⟩
        · simp only [if_neg c3, if_pos hv0, if_pos (by omega : v ≤ v + 4), if_pos (by omega : 0 ≤ v + 4), if_pos (by omega : v + 4 ≤ ((a.extract m a.size).size : Int)), if_pos (by omega : v ≤ ((a.extract m a.size).size : Int)), if_pos (by omega : 0 ≤ (m : Int) + v), if_pos (by omega : (m : Int) + v ≤ (a.size : Int))]
          exact ⟨_, rfl, rfl⟩
theorem tnum_all (a : ByteArray) : ∃ r, Ev (fun k => pack_TakeNum.f k a) r ∧ Ev (fun k => ferruleref01_TakeNum.f k a) r ∧ inU64 r.1 := by
  obtain ⟨r, h1, h2, h3, _⟩ := take_all a
  exact ⟨r, h1, h2, h3⟩
theorem ttext_all (a : ByteArray) : ∃ r, Ev (fun k => pack_TakeText.f k a) r ∧ Ev (fun k => ferruleref01_TakeText.f k a) r := by
  obtain ⟨r, h1, h2⟩ := taketexts_both a
  exact ⟨r, Ev.of (fun k => pack_TakeText.mono a k) h1, Ev.of (fun k => ferruleref01_TakeText.mono a k) h2⟩
theorem few_both (N : Int) (hN : N < 18446744073709551616) : ∀ (n : Nat) (s : ByteArray) (out : List Int) (i : Nat), out.length + n ≤ 100 → (i : Int) + n = N → (∀ x ∈ out, 0 ≤ x) →
    ∃ r, Ev (fun k => severalF k n s out) r ∧ Ev (fun k => ferruleref01_TakeNums.l0 k N s out (i : Int)) r ∧ (∀ x ∈ r.1, 0 ≤ x)
  | 0, s, out, i, hb, hi, h0 => by
    refine ⟨(out, s, 0), Ev.congr (f := fun _ => some (out, s, 0)) (fun k => by rw [severalF]) (Ev.now _), ?_, h0⟩
    exact Ev.step (f := fun _ => some (out, s, 0)) (fun k => by rw [ferruleref01_TakeNums.l0, if_neg (by omega)]) (Ev.now _)
  | n + 1, s, out, i, hb, hi, h0 => by
    obtain ⟨r, h1, h2, hu⟩ := tnum_all s
    have hwi : IntKind.u64.wrap ((i : Int) + 1) = ((i + 1 : Nat) : Int) := by simp [IntKind.wrap, IntKind.signed, IntKind.bits]; omega
    by_cases he : r.2.2 = 0
    · obtain ⟨q, q1, q2, q3⟩ := few_both N hN n r.2.1 (out ++ [r.1]) (i + 1) (by rw [List.length_append, List.length_singleton]; omega) (by omega) (fun x hx => by
        rcases List.mem_append.1 hx with hx | hx
        · exact h0 x hx
        · rw [List.mem_singleton.1 hx]; exact hu.1)
      refine ⟨q, ?_, ?_, q3⟩
      · refine Ev.congr (f := fun k => (pack_TakeNum.f k s).bind fun b => if b.2.2 = 0 then (if out.length < 17592186044415 then severalF k n b.2.1 (out ++ [b.1]) else none) else some ([], (⟨#[]⟩ : ByteArray), b.2.2)) (fun k => by rw [severalF]) ?_
        refine Ev.bind h1 ?_
        refine Ev.congr (fun k => ?_) q1
        rw [if_pos he, if_pos (by omega)]
      · refine Ev.step (f := fun k => (ferruleref01_TakeNum.f k s).bind fun bt120 => (if bt120.2.2 = 0 then (if out.length < 17592186044416 then (ferruleref01_TakeNums.l0 k N bt120.2.1 (out ++ [bt120.1]) (IntKind.u64.wrap ((i : Int) + 1))) else (none)) else (some (([] : List Int), (⟨#[]⟩ : ByteArray), bt120.2.2)))) (fun k => by rw [ferruleref01_TakeNums.l0, if_pos (by omega)]) ?_
        refine Ev.bind h2 ?_
        refine Ev.congr (fun k => ?_) q2
        rw [if_pos he, if_pos (by omega), hwi]
    · refine ⟨([], (⟨#[]⟩ : ByteArray), r.2.2), ?_, ?_, by simp⟩
      · refine Ev.congr (f := fun k => (pack_TakeNum.f k s).bind fun b => if b.2.2 = 0 then (if out.length < 17592186044415 then severalF k n b.2.1 (out ++ [b.1]) else none) else some ([], (⟨#[]⟩ : ByteArray), b.2.2)) (fun k => by rw [severalF]) ?_
        refine Ev.bind h1 ?_
        exact Ev.congr (f := fun _ => some ([], (⟨#[]⟩ : ByteArray), r.2.2)) (fun k => by rw [if_neg he]) (Ev.now _)
      · refine Ev.step (f := fun k => (ferruleref01_TakeNum.f k s).bind fun bt120 => (if bt120.2.2 = 0 then (if out.length < 17592186044416 then (ferruleref01_TakeNums.l0 k N bt120.2.1 (out ++ [bt120.1]) (IntKind.u64.wrap ((i : Int) + 1))) else (none)) else (some (([] : List Int), (⟨#[]⟩ : ByteArray), bt120.2.2)))) (fun k => by rw [ferruleref01_TakeNums.l0, if_pos (by omega)]) ?_
        refine Ev.bind h2 ?_
        exact Ev.congr (f := fun _ => some ([], (⟨#[]⟩ : ByteArray), r.2.2)) (fun k => by rw [if_neg he]) (Ev.now _)
/-- A few numbers are taken alike; none is below nought. -/
theorem few_take (a : ByteArray) (most : Int) (hm0 : 0 ≤ most) (hm1 : most ≤ 90) : ∃ r, Ev (fun k => pack_TakeNums.f k a most) r ∧ Ev (fun k => ferruleref01_TakeNums.f k a most) r ∧ (∀ x ∈ r.1, 0 ≤ x) := by
  obtain ⟨r, h1, h2, hu⟩ := tnum_all a
  have hin : inU r.1 = true := by
    unfold inU
    obtain ⟨h3, h4⟩ := hu
    rw [decide_eq_true h3, decide_eq_true (by omega)]
    rfl
  have hmw : IntKind.u64.wrap most = most := by simp [IntKind.wrap, IntKind.signed, IntKind.bits]; omega
  by_cases he : r.2.2 = 0
  · by_cases hg : r.1 > IntKind.u64.wrap most
    · refine ⟨([], (⟨#[]⟩ : ByteArray), 4), ?_, ?_, by simp⟩
      · refine Ev.bind h1 ?_
        exact Ev.congr (f := fun _ => some ([], (⟨#[]⟩ : ByteArray), 4)) (fun k => by rw [if_pos hin, if_pos he, if_neg (by omega), if_pos hg]) (Ev.now _)
      · refine Ev.bind h2 ?_
        refine Ev.congr (f := fun k => ferruleref01_TakeNums.j0 k r.1 r.2.1 true) (fun k => by rw [if_pos he, if_neg (by omega), decide_eq_true hg]) ?_
        exact Ev.step (f := fun _ => some ([], (⟨#[]⟩ : ByteArray), 4)) (fun k => by rw [ferruleref01_TakeNums.j0, if_pos rfl]) (Ev.now _)
    · obtain ⟨q, q1, q2, q3⟩ := few_both r.1 (by have := hu.2; omega) r.1.toNat r.2.1 [] 0 (by rw [hmw] at hg; simp; omega) (by have := hu.1; omega) (by simp)
      refine ⟨q, ?_, ?_, q3⟩
      · refine Ev.bind h1 ?_
        exact Ev.congr (fun k => by rw [if_pos hin, if_pos he, if_neg (by omega), if_neg hg]) q1
      · refine Ev.bind h2 ?_
        refine Ev.congr (f := fun k => ferruleref01_TakeNums.j0 k r.1 r.2.1 false) (fun k => by rw [if_pos he, if_neg (by omega), decide_eq_false hg]) ?_
        exact Ev.step (f := fun k => ferruleref01_TakeNums.l0 k r.1 r.2.1 [] 0) (fun k => by rw [ferruleref01_TakeNums.j0, if_neg (by decide)]) q2
  · refine ⟨([], (⟨#[]⟩ : ByteArray), r.2.2), ?_, ?_, by simp⟩
    · refine Ev.bind h1 ?_
      exact Ev.congr (f := fun _ => some ([], (⟨#[]⟩ : ByteArray), r.2.2)) (fun k => by rw [if_pos hin, if_neg he]) (Ev.now _)
    · refine Ev.bind h2 ?_
      exact Ev.congr (f := fun _ => some ([], (⟨#[]⟩ : ByteArray), r.2.2)) (fun k => by rw [if_neg he]) (Ev.now _)
abbrev MB := Int × Int × Int × Int × Int × Int × Int × Bool × List S75 × ByteArray × Bool
abbrev MI := Int × Int × Int × Int × Int × Int × Int × Bool × List S75 × ByteArray × Int
/-- What the document's Take tells, where the program's inner take tells r. -/
def told (r : MB) : MI := if r.2.2.2.2.2.2.2.2.2.2 = true then (r.1, r.2.1, r.2.2.1, r.2.2.2.1, r.2.2.2.2.1, r.2.2.2.2.2.1, r.2.2.2.2.2.2.1, r.2.2.2.2.2.2.2.1, r.2.2.2.2.2.2.2.2.1, r.2.2.2.2.2.2.2.2.2.1, 0) else (0, 0, 0, 0, 0, 0, 0, false, [], ⟨#[]⟩, 3)
theorem loop_both (N k0 k1 k2 k3 k4 k5 k6 : Int) (ok : Bool) (sn : ByteArray) (h6 : 0 ≤ k6) (hN : N ≤ 8) : ∀ (d i : Nat) (s : ByteArray) (es : List S75), (i : Int) + d = N → es.length + d ≤ 100 →
    ∃ r, Ev (fun k => post_take.l0 k s N (i : Int) k0 k1 k2 k3 k4 k5 k6 ok es sn) r ∧ Ev (fun k => ferruleref17_Take.l0 k N s (i : Int) k0 k1 k2 k3 k4 k5 k6 ok es sn) (told r) ∧ r.2.2.2.2.2.2.2.2.1.length ≤ 100
  | 0, i, s, es, hi, hl => by
    obtain ⟨r, h1, h2⟩ := ttext_all s
    have hM : Ev (fun k => ferruleref17_May.f k k0 k1 k2 k3 k4 k5 k6 ok es r.1) (mayB k0 k1 k2 k3 k4 k5 k6 ok es r.1) := ⟨es.length + 4, fun k hk => rmay_f _ _ _ _ _ _ _ _ _ _ h6 (by omega) k hk⟩
    have hnil := toNil5 (a := r.2.1)
    by_cases he : r.2.2 = 0
    · by_cases hr : (r.2.1.size : Int) = 0
      · have hr' : r.2.1.toList = ([] : List UInt8) := by rw [decide_eq_true hr] at hnil; exact beq_iff_eq.1 hnil
        refine ⟨(k0, k1, k2, k3, k4, k5, k6, ok, es, r.1, mayB k0 k1 k2 k3 k4 k5 k6 ok es r.1), ?_, ?_, show es.length ≤ 100 by omega⟩
        · refine Ev.step (f := fun k => (pack_TakeText.f k s).bind fun bt559 => (if bt559.2.2 = 0 then (if bt559.2.1.toList = ([] : List UInt8) then ((post_May.f k0 k1 k2 k3 k4 k5 k6 ok es bt559.1).bind fun t562 => (some (k0, k1, k2, k3, k4, k5, k6, ok, es, bt559.1, t562))) else (some (k0, k1, k2, k3, k4, k5, k6, ok, es, bt559.1, false))) else (some (k0, k1, k2, k3, k4, k5, k6, ok, es, bt559.1, false)))) (fun k => by rw [post_take.l0, if_neg (by omega)]) ?_
          refine Ev.bind h1 ?_
          simp only [if_pos he, if_pos hr', post_May.f, Option.bind_some]
          exact Ev.now _
        · refine Ev.step (f := fun k => (ferruleref01_TakeText.f k s).bind fun bt626 => ((ferruleref17_May.f k k0 k1 k2 k3 k4 k5 k6 ok es bt626.1).bind fun t629 => (if bt626.2.2 = 0 then (if (bt626.2.1.size : Int) > 0 then (some (0, 0, 0, 0, 0, 0, 0, false, ([] : List (S75)), (⟨#[]⟩ : ByteArray), 3)) else (if t629 = true then (some (k0, k1, k2, k3, k4, k5, k6, ok, es, bt626.1, 0)) else (some (0, 0, 0, 0, 0, 0, 0, false, ([] : List (S75)), (⟨#[]⟩ : ByteArray), 3)))) else (some (0, 0, 0, 0, 0, 0, 0, false, ([] : List (S75)), (⟨#[]⟩ : ByteArray), 3))))) (fun k => by rw [ferruleref17_Take.l0, if_neg (by omega)]) ?_
          refine Ev.bind h2 ?_
          refine Ev.bind hM ?_
          simp only [if_pos he, if_neg (show ¬ (r.2.1.size : Int) > 0 by omega)]
          refine Ev.congr (f := fun _ => some (told (k0, k1, k2, k3, k4, k5, k6, ok, es, r.1, mayB k0 k1 k2 k3 k4 k5 k6 ok es r.1))) (fun k => ?_) (Ev.now _)
          unfold told
          dsimp only
          split <;> rfl
      · have hr' : ¬ r.2.1.toList = ([] : List UInt8) := fun c => by rw [c, decide_eq_false hr] at hnil; cases hnil
        refine ⟨(k0, k1, k2, k3, k4, k5, k6, ok, es, r.1, false), ?_, ?_, show es.length ≤ 100 by omega⟩
        · refine Ev.step (f := fun k => (pack_TakeText.f k s).bind fun bt559 => (if bt559.2.2 = 0 then (if bt559.2.1.toList = ([] : List UInt8) then ((post_May.f k0 k1 k2 k3 k4 k5 k6 ok es bt559.1).bind fun t562 => (some (k0, k1, k2, k3, k4, k5, k6, ok, es, bt559.1, t562))) else (some (k0, k1, k2, k3, k4, k5, k6, ok, es, bt559.1, false))) else (some (k0, k1, k2, k3, k4, k5, k6, ok, es, bt559.1, false)))) (fun k => by rw [post_take.l0, if_neg (by omega)]) ?_
          refine Ev.bind h1 ?_
          simp only [if_pos he, if_neg hr']
          exact Ev.now _
        · refine Ev.step (f := fun k => (ferruleref01_TakeText.f k s).bind fun bt626 => ((ferruleref17_May.f k k0 k1 k2 k3 k4 k5 k6 ok es bt626.1).bind fun t629 => (if bt626.2.2 = 0 then (if (bt626.2.1.size : Int) > 0 then (some (0, 0, 0, 0, 0, 0, 0, false, ([] : List (S75)), (⟨#[]⟩ : ByteArray), 3)) else (if t629 = true then (some (k0, k1, k2, k3, k4, k5, k6, ok, es, bt626.1, 0)) else (some (0, 0, 0, 0, 0, 0, 0, false, ([] : List (S75)), (⟨#[]⟩ : ByteArray), 3)))) else (some (0, 0, 0, 0, 0, 0, 0, false, ([] : List (S75)), (⟨#[]⟩ : ByteArray), 3))))) (fun k => by rw [ferruleref17_Take.l0, if_neg (by omega)]) ?_
          refine Ev.bind h2 ?_
          refine Ev.bind hM ?_
          simp only [if_pos he, if_pos (show (r.2.1.size : Int) > 0 by omega)]
          exact Ev.now _
    · refine ⟨(k0, k1, k2, k3, k4, k5, k6, ok, es, r.1, false), ?_, ?_, show es.length ≤ 100 by omega⟩
      · refine Ev.step (f := fun k => (pack_TakeText.f k s).bind fun bt559 => (if bt559.2.2 = 0 then (if bt559.2.1.toList = ([] : List UInt8) then ((post_May.f k0 k1 k2 k3 k4 k5 k6 ok es bt559.1).bind fun t562 => (some (k0, k1, k2, k3, k4, k5, k6, ok, es, bt559.1, t562))) else (some (k0, k1, k2, k3, k4, k5, k6, ok, es, bt559.1, false))) else (some (k0, k1, k2, k3, k4, k5, k6, ok, es, bt559.1, false)))) (fun k => by rw [post_take.l0, if_neg (by omega)]) ?_
        refine Ev.bind h1 ?_
        simp only [if_neg he]
        exact Ev.now _
      · refine Ev.step (f := fun k => (ferruleref01_TakeText.f k s).bind fun bt626 => ((ferruleref17_May.f k k0 k1 k2 k3 k4 k5 k6 ok es bt626.1).bind fun t629 => (if bt626.2.2 = 0 then (if (bt626.2.1.size : Int) > 0 then (some (0, 0, 0, 0, 0, 0, 0, false, ([] : List (S75)), (⟨#[]⟩ : ByteArray), 3)) else (if t629 = true then (some (k0, k1, k2, k3, k4, k5, k6, ok, es, bt626.1, 0)) else (some (0, 0, 0, 0, 0, 0, 0, false, ([] : List (S75)), (⟨#[]⟩ : ByteArray), 3)))) else (some (0, 0, 0, 0, 0, 0, 0, false, ([] : List (S75)), (⟨#[]⟩ : ByteArray), 3))))) (fun k => by rw [ferruleref17_Take.l0, if_neg (by omega)]) ?_
        refine Ev.bind h2 ?_
        refine Ev.bind hM ?_
        simp only [if_neg he]
        exact Ev.now _
  | d + 1, i, s, es, hi, hl => by
    obtain ⟨r, h1, h2, hu⟩ := tnum_all s
    obtain ⟨q, g1, g2⟩ := ttext_all r.2.1
    have hwi : IntKind.u64.wrap ((i : Int) + 1) = ((i + 1 : Nat) : Int) := by simp [IntKind.wrap, IntKind.signed, IntKind.bits]; omega
    obtain ⟨z, z1, z2, z3⟩ := loop_both N k0 k1 k2 k3 k4 k5 k6 ok sn h6 hN d (i + 1) q.2.1 (es ++ [(⟨r.1, q.1⟩ : S75)]) (by omega) (by rw [List.length_append, List.length_singleton]; omega)
    have e1 : ∀ k, post_take.l0 (k + 1) s N (i : Int) k0 k1 k2 k3 k4 k5 k6 ok es sn = ((pack_TakeNum.f k s).bind fun bt563 => ((pack_TakeText.f k bt563.2.1).bind fun bt566 => (if bt563.2.2 = 0 then (if bt566.2.2 = 0 then (if es.length < 5864062014805 then (post_take.l0 k bt566.2.1 N (IntKind.u64.wrap ((i : Int) + 1)) k0 k1 k2 k3 k4 k5 k6 ok (es ++ [(⟨bt563.1, bt566.1⟩ : S75)]) sn) else (none)) else (some (0, 0, 0, 0, 0, 0, 0, false, ([] : List (S75)), (⟨#[]⟩ : ByteArray), false))) else (some (0, 0, 0, 0, 0, 0, 0, false, ([] : List (S75)), (⟨#[]⟩ : ByteArray), false))))) := fun k => by rw [post_take.l0, if_pos (by omega)]
    have e2 : ∀ k, ferruleref17_Take.l0 (k + 1) N s (i : Int) k0 k1 k2 k3 k4 k5 k6 ok es sn = ((ferruleref01_TakeNum.f k s).bind fun bt617 => ((ferruleref01_TakeText.f k bt617.2.1).bind fun bt620 => (if bt617.2.2 = 0 then (if bt620.2.2 = 0 then (if es.length < 5864062014805 then (ferruleref17_Take.l0 k N bt620.2.1 (IntKind.u64.wrap ((i : Int) + 1)) k0 k1 k2 k3 k4 k5 k6 ok (es ++ [(⟨bt617.1, bt620.1⟩ : S75)]) sn) else (none)) else (some (0, 0, 0, 0, 0, 0, 0, false, ([] : List (S75)), (⟨#[]⟩ : ByteArray), 3))) else (some (0, 0, 0, 0, 0, 0, 0, false, ([] : List (S75)), (⟨#[]⟩ : ByteArray), 3))))) := fun k => by rw [ferruleref17_Take.l0, if_pos (by omega)]
    by_cases he : r.2.2 = 0
    · by_cases hq : q.2.2 = 0
      · refine ⟨z, Ev.step e1 (Ev.bind h1 (Ev.bind g1 ?_)), Ev.step e2 (Ev.bind h2 (Ev.bind g2 ?_)), z3⟩
        · simp only [if_pos he, if_pos hq, if_pos (show es.length < 5864062014805 by omega), hwi]
          exact z1
        · simp only [if_pos he, if_pos hq, if_pos (show es.length < 5864062014805 by omega), hwi]
          exact z2
      · refine ⟨(0, 0, 0, 0, 0, 0, 0, false, [], ⟨#[]⟩, false), Ev.step e1 (Ev.bind h1 (Ev.bind g1 ?_)), Ev.step e2 (Ev.bind h2 (Ev.bind g2 ?_)), Nat.zero_le _⟩
        · simp only [if_pos he, if_neg hq]
          exact Ev.now _
        · simp only [if_pos he, if_neg hq]
          exact Ev.now _
    · refine ⟨(0, 0, 0, 0, 0, 0, 0, false, [], ⟨#[]⟩, false), Ev.step e1 (Ev.bind h1 (Ev.bind g1 ?_)), Ev.step e2 (Ev.bind h2 (Ev.bind g2 ?_)), Nat.zero_le _⟩
      · simp only [if_neg he]
        exact Ev.now _
      · simp only [if_neg he]
        exact Ev.now _
end Go.Proofs.Ytfjhlcbpogihmaa.Pr
namespace Go.Proofs.Ytfjhlcbpogihmaa.Pr
open Go.RowKit Go.Proofs.YtfjhlcbpogihmaaW.PrintWords Go.Proofs.YtfjhlcbpogihmaaW.PrintLast Go.Proofs.YtfjhlcbpogihmaaW.PrintMore
set_option linter.unusedVariables false
set_option linter.unusedSimpArgs false
theorem rd_nonneg {l : List Int} (h : ∀ x ∈ l, 0 ≤ x) (i : Int) : 0 ≤ rd l i := by
  unfold rd
  rw [List.getD_eq_getElem?_getD]
  cases hx : l[i.toNat]? with
  | none => simp
  | some v => exact h v (List.mem_of_getElem? hx)
def noMB : MB := (0, 0, 0, 0, 0, 0, 0, false, [], ⟨#[]⟩, false)
theorem take_inner (a : ByteArray) : ∃ r, Ev (fun k => post_take.f k a) r ∧ Ev (fun k => ferruleref17_Take.j0 k a false) (told r) ∧ r.2.2.2.2.2.2.2.2.1.length ≤ 100 := by
  obtain ⟨l, l1, l2, l0⟩ := few_take a 7 (by decide) (by decide)
  have e1 : ∀ k, ferruleref17_Take.j0 (k + 1) a false = ((ferruleref01_TakeNums.f k a 7).bind fun bt597 => (if bt597.2.2 = 0 then (if (bt597.1.length : Int) = 7 then (if 0 < (bt597.1.length : Int) then (ferruleref17_Take.j1 k bt597.1 bt597.2.1 (decide ((rd bt597.1 0) > 7))) else (none)) else (ferruleref17_Take.j1 k bt597.1 bt597.2.1 true)) else (ferruleref17_Take.j1 k bt597.1 bt597.2.1 true))) := fun k => by rw [ferruleref17_Take.j0, if_neg (by decide)]
  have n1 : ∀ x y, Ev (fun k => post_take.j0 k x y true) noMB := fun x y => Ev.step (f := fun _ => some noMB) (fun k => by rw [post_take.j0, if_pos rfl]; rfl) (Ev.now _)
  have n2 : ∀ x y, Ev (fun k => ferruleref17_Take.j1 k x y true) (told noMB) := fun x y => Ev.step (f := fun _ => some (told noMB)) (fun k => by rw [ferruleref17_Take.j1, if_pos rfl]; rfl) (Ev.now _)
  by_cases he : l.2.2 = 0
  rotate_left
  · refine ⟨noMB, Ev.bind l1 ?_, Ev.step e1 (Ev.bind l2 ?_), Nat.zero_le _⟩
    · simp only [if_neg he]; exact n1 _ _
    · simp only [if_neg he]; exact n2 _ _
  by_cases h7 : (l.1.length : Int) = 7
  rotate_left
  · refine ⟨noMB, Ev.bind l1 ?_, Ev.step e1 (Ev.bind l2 ?_), Nat.zero_le _⟩
    · simp only [if_pos he, if_neg h7]; exact n1 _ _
    · simp only [if_pos he, if_neg h7]; exact n2 _ _
  have h0 : 0 < (l.1.length : Int) := by omega
  by_cases hk : rd l.1 0 > 7
  · refine ⟨noMB, Ev.bind l1 ?_, Ev.step e1 (Ev.bind l2 ?_), Nat.zero_le _⟩
    · simp only [if_pos he, if_pos h7, if_pos h0, decide_eq_true hk]; exact n1 _ _
    · simp only [if_pos he, if_pos h7, if_pos h0, decide_eq_true hk]; exact n2 _ _
  obtain ⟨b, b1, b2, bu⟩ := tnum_all l.2.1
  have f1 : ∀ k, post_take.j0 (k + 1) l.2.1 l.1 false = ((pack_TakeNum.f k l.2.1).bind fun bt553 => (if bt553.2.2 = 0 then (post_take.j1 k bt553.2.1 bt553.1 (decide (bt553.1 > 1)) (wrap64 (rd l.1 0)) (rd l.1 1) (rd l.1 2) (rd l.1 3) (rd l.1 4) (rd l.1 5) (rd l.1 6) false (⟨#[]⟩ : ByteArray)) else (post_take.j1 k bt553.2.1 bt553.1 true (wrap64 (rd l.1 0)) (rd l.1 1) (rd l.1 2) (rd l.1 3) (rd l.1 4) (rd l.1 5) (rd l.1 6) false (⟨#[]⟩ : ByteArray)))) := fun k => by
    rw [post_take.j0, if_neg (by decide), if_pos h0, if_pos (by omega), if_pos (by omega), if_pos (by omega), if_pos (by omega), if_pos (by omega), if_pos (by omega)]
  have f2 : ∀ k, ferruleref17_Take.j1 (k + 1) l.1 l.2.1 false = ((ferruleref01_TakeNum.f k l.2.1).bind fun bt611 => (if bt611.2.2 = 0 then (ferruleref17_Take.j2 k bt611.1 bt611.2.1 (decide (bt611.1 > 1)) (wrap64 (rd l.1 0)) (rd l.1 1) (rd l.1 2) (rd l.1 3) (rd l.1 4) (rd l.1 5) (rd l.1 6) false (⟨#[]⟩ : ByteArray)) else (ferruleref17_Take.j2 k bt611.1 bt611.2.1 true (wrap64 (rd l.1 0)) (rd l.1 1) (rd l.1 2) (rd l.1 3) (rd l.1 4) (rd l.1 5) (rd l.1 6) false (⟨#[]⟩ : ByteArray)))) := fun k => by
    rw [ferruleref17_Take.j1, if_neg (by decide), if_pos h0, if_pos (by omega), if_pos (by omega), if_pos (by omega), if_pos (by omega), if_pos (by omega), if_pos (by omega)]
  have h6 : 0 ≤ rd l.1 6 := rd_nonneg l0 6
  suffices hs : ∃ r, Ev (fun k => post_take.j0 k l.2.1 l.1 false) r ∧ Ev (fun k => ferruleref17_Take.j1 k l.1 l.2.1 false) (told r) ∧ r.2.2.2.2.2.2.2.2.1.length ≤ 100 by
    obtain ⟨r, s1, s2, s3⟩ := hs
    refine ⟨r, Ev.bind l1 ?_, Ev.step e1 (Ev.bind l2 ?_), s3⟩
    · simp only [if_pos he, if_pos h7, if_pos h0, decide_eq_false hk]; exact s1
    · simp only [if_pos he, if_pos h7, if_pos h0, decide_eq_false hk]; exact s2
  generalize wrap64 (rd l.1 0) = k0 at f1 f2
  generalize rd l.1 1 = k1 at f1 f2
  generalize rd l.1 2 = k2 at f1 f2
  generalize rd l.1 3 = k3 at f1 f2
  generalize rd l.1 4 = k4 at f1 f2
  generalize rd l.1 5 = k5 at f1 f2
  generalize rd l.1 6 = k6 at f1 f2 h6
  have m1 : ∀ x y (ok : Bool), Ev (fun k => post_take.j1 k x y true k0 k1 k2 k3 k4 k5 k6 ok ⟨#[]⟩) noMB := fun x y ok => Ev.step (f := fun _ => some noMB) (fun k => by rw [post_take.j1, if_pos rfl]; rfl) (Ev.now _)
  have m2 : ∀ x y (ok : Bool), Ev (fun k => ferruleref17_Take.j2 k x y true k0 k1 k2 k3 k4 k5 k6 ok ⟨#[]⟩) (told noMB) := fun x y ok => Ev.step (f := fun _ => some (told noMB)) (fun k => by rw [ferruleref17_Take.j2, if_pos rfl]; rfl) (Ev.now _)
  by_cases hb : b.2.2 = 0
  rotate_left
  · refine ⟨noMB, Ev.step f1 (Ev.bind b1 ?_), Ev.step f2 (Ev.bind b2 ?_), Nat.zero_le _⟩
    · simp only [if_neg hb]; exact m1 _ _ _
    · simp only [if_neg hb]; exact m2 _ _ _
  by_cases hv : b.1 > 1
  · refine ⟨noMB, Ev.step f1 (Ev.bind b1 ?_), Ev.step f2 (Ev.bind b2 ?_), Nat.zero_le _⟩
    · simp only [if_pos hb, decide_eq_true hv]; exact m1 _ _ _
    · simp only [if_pos hb, decide_eq_true hv]; exact m2 _ _ _
  suffices hs : ∃ r, Ev (fun k => post_take.j1 k b.2.1 b.1 false k0 k1 k2 k3 k4 k5 k6 false ⟨#[]⟩) r ∧ Ev (fun k => ferruleref17_Take.j2 k b.1 b.2.1 false k0 k1 k2 k3 k4 k5 k6 false ⟨#[]⟩) (told r) ∧ r.2.2.2.2.2.2.2.2.1.length ≤ 100 by
    obtain ⟨r, s1, s2, s3⟩ := hs
    refine ⟨r, Ev.step f1 (Ev.bind b1 ?_), Ev.step f2 (Ev.bind b2 ?_), s3⟩
    · simp only [if_pos hb, decide_eq_false hv]; exact s1
    · simp only [if_pos hb, decide_eq_false hv]; exact s2
  obtain ⟨c, c1, c2, cu⟩ := tnum_all b.2.1
  have p1 : ∀ k, post_take.j1 (k + 1) b.2.1 b.1 false k0 k1 k2 k3 k4 k5 k6 false ⟨#[]⟩ = ((pack_TakeNum.f k b.2.1).bind fun bt556 => (if bt556.2.2 = 0 then (post_take.j2 k bt556.2.1 bt556.1 (decide (bt556.1 > 8)) k0 k1 k2 k3 k4 k5 k6 (b.1 == 1) ⟨#[]⟩) else (post_take.j2 k bt556.2.1 bt556.1 true k0 k1 k2 k3 k4 k5 k6 (b.1 == 1) ⟨#[]⟩))) := fun k => by rw [post_take.j1, if_neg (by decide)]
  have p2 : ∀ k, ferruleref17_Take.j2 (k + 1) b.1 b.2.1 false k0 k1 k2 k3 k4 k5 k6 false ⟨#[]⟩ = ((ferruleref01_TakeNum.f k b.2.1).bind fun bt614 => (if bt614.2.2 = 0 then (ferruleref17_Take.j3 k b.1 bt614.1 bt614.2.1 (decide (bt614.1 > 8)) k0 k1 k2 k3 k4 k5 k6 false ⟨#[]⟩) else (ferruleref17_Take.j3 k b.1 bt614.1 bt614.2.1 true k0 k1 k2 k3 k4 k5 k6 false ⟨#[]⟩))) := fun k => by rw [ferruleref17_Take.j2, if_neg (by decide)]
  have q1 : ∀ x y (ok : Bool), Ev (fun k => post_take.j2 k x y true k0 k1 k2 k3 k4 k5 k6 ok ⟨#[]⟩) noMB := fun x y ok => Ev.step (f := fun _ => some noMB) (fun k => by rw [post_take.j2, if_pos rfl]; rfl) (Ev.now _)
  have q2 : ∀ z x y (ok : Bool), Ev (fun k => ferruleref17_Take.j3 k z x y true k0 k1 k2 k3 k4 k5 k6 ok ⟨#[]⟩) (told noMB) := fun z x y ok => Ev.step (f := fun _ => some (told noMB)) (fun k => by rw [ferruleref17_Take.j3, if_pos rfl]; rfl) (Ev.now _)
  by_cases hc : c.2.2 = 0
  rotate_left
  · refine ⟨noMB, Ev.step p1 (Ev.bind c1 ?_), Ev.step p2 (Ev.bind c2 ?_), Nat.zero_le _⟩
    · simp only [if_neg hc]; exact q1 _ _ _
    · simp only [if_neg hc]; exact q2 _ _ _ _
  by_cases hn : c.1 > 8
  · refine ⟨noMB, Ev.step p1 (Ev.bind c1 ?_), Ev.step p2 (Ev.bind c2 ?_), Nat.zero_le _⟩
    · simp only [if_pos hc, decide_eq_true hn]; exact q1 _ _ _
    · simp only [if_pos hc, decide_eq_true hn]; exact q2 _ _ _ _
  obtain ⟨r, r1, r2, r3⟩ := loop_both c.1 k0 k1 k2 k3 k4 k5 k6 (b.1 == 1) ⟨#[]⟩ h6 (by omega) c.1.toNat 0 c.2.1 [] (by have := cu.1; omega) (by simp; omega)
  refine ⟨r, Ev.step p1 (Ev.bind c1 ?_), Ev.step p2 (Ev.bind c2 ?_), r3⟩
  · simp only [if_pos hc, decide_eq_false hn]
    exact Ev.step (f := fun k => post_take.l0 k c.2.1 c.1 0 k0 k1 k2 k3 k4 k5 k6 (b.1 == 1) [] ⟨#[]⟩) (fun k => by rw [post_take.j2, if_neg (by decide)]) r1
  · simp only [if_pos hc, decide_eq_false hn]
    exact Ev.step (f := fun k => ferruleref17_Take.l0 k c.1 c.2.1 0 k0 k1 k2 k3 k4 k5 k6 (b.1 == 1) [] ⟨#[]⟩) (fun k => by rw [ferruleref17_Take.j3, if_neg (by decide)]) r2
/-- The two Takes tell one thing. -/
theorem take_one (a : ByteArray) (ha : a.size ≤ 140737488351232) : ∃ r, Ev (fun k => post_Take.f k a) r ∧ Ev (fun k => ferruleref17_Take.f k a) r ∧ r.2.2.2.2.2.2.2.2.1.length ≤ 100 := by
  obtain ⟨t, t1, t2⟩ := seal_same a ha
  have T1 := Ev.of (fun k => seal_Take.mono a k) t1
  have T2 := Ev.of (fun k => ferruleref02_Take.mono a k) t2
  have n1 : ∀ x, Ev (fun k => post_Take.j0 k x true) (told noMB) := fun x => Ev.step (f := fun _ => some (told noMB)) (fun k => by rw [post_Take.j0, if_pos rfl]; rfl) (Ev.now _)
  have n2 : ∀ x, Ev (fun k => ferruleref17_Take.j0 k x true) (told noMB) := fun x => Ev.step (f := fun _ => some (told noMB)) (fun k => by rw [ferruleref17_Take.j0, if_pos rfl]; rfl) (Ev.now _)
  have hnil := toNil5 (a := t.2.1)
  by_cases he : t.2.2 = 0
  rotate_left
  · refine ⟨told noMB, Ev.bind T1 ?_, Ev.bind T2 ?_, Nat.zero_le _⟩
    · simp only [if_neg he]; exact n1 _
    · simp only [if_neg he]; exact n2 _
  by_cases hr : (t.2.1.size : Int) = 0
  rotate_left
  · have hn : (t.2.1.toList != ([] : List UInt8)) = true := by
      rw [decide_eq_false hr] at hnil
      exact bne_iff_ne.2 (fun c => by rw [c] at hnil; cases hnil)
    refine ⟨told noMB, Ev.bind T1 ?_, Ev.bind T2 ?_, Nat.zero_le _⟩
    · simp only [if_pos he, hn]; exact n1 _
    · simp only [if_pos he, decide_eq_true (show (t.2.1.size : Int) > 0 by omega)]; exact n2 _
  have hn : (t.2.1.toList != ([] : List UInt8)) = false := by
    rw [decide_eq_true hr] at hnil
    exact bne_eq_false_iff_eq.2 (beq_iff_eq.1 hnil)
  obtain ⟨r, r1, r2, r3⟩ := take_inner t.1
  refine ⟨told r, Ev.bind T1 ?_, Ev.bind T2 ?_, (by unfold told; split; exact r3; exact Nat.zero_le _)⟩
  · simp only [if_pos he, hn]
    refine Ev.step (f := fun k => (post_take.f k t.1).bind fun bt576 => (if bt576.2.2.2.2.2.2.2.2.2.2 = true then (some (bt576.1, bt576.2.1, bt576.2.2.1, bt576.2.2.2.1, bt576.2.2.2.2.1, bt576.2.2.2.2.2.1, bt576.2.2.2.2.2.2.1, bt576.2.2.2.2.2.2.2.1, bt576.2.2.2.2.2.2.2.2.1, bt576.2.2.2.2.2.2.2.2.2.1, 0)) else (some (0, 0, 0, 0, 0, 0, 0, false, ([] : List (S75)), (⟨#[]⟩ : ByteArray), 3)))) (fun k => by rw [post_Take.j0, if_neg (by decide)]) ?_
    refine Ev.bind r1 ?_
    refine Ev.congr (f := fun _ => some (told r)) (fun k => ?_) (Ev.now _)
    unfold told
    split <;> rfl
  · simp only [if_pos he, decide_eq_false (show ¬ (t.2.1.size : Int) > 0 by omega)]
    exact r2
end Go.Proofs.Ytfjhlcbpogihmaa.Pr
