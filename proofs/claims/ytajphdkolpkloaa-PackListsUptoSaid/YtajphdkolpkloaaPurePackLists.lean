/- Several numbers' bytes are the document's; the numbers that begin whatever bytes there are (the second form: arguments of bulk at most 1048576): proved of the printed function. Conditions: none. -/
import Derived.Test.YtajphdkolpkloaaDefPackLists
import Derived.Test.YtajphdkolpkloaaPackO
namespace Go.Proofs.Ytajphdkolpkloaa.Pr
open Go.RowKit Go.Proofs.YtajphdkolpkloaaW.PrintWords Go.Proofs.YtajphdkolpkloaaW.PrintLast Go.Proofs.YtajphdkolpkloaaW.PrintMore
set_option linter.unusedVariables false
set_option linter.unusedSimpArgs false
theorem numL_le8 (v : Int) : (strOfNums (numL v)).size ≤ 8 := by
  have h := size_num v
  rcases sizeI_cases v with h1 | h1 | h1 | h1 | h1 <;> omega
theorem refnum_ev {v : Int} (h : inU64 v) : Ev (fun k => ferruleref01_Num.f k v) (strOfNums (numL v), numE v) := Ev.of (fun k => ferruleref01_Num.mono v k) (refnum h)
theorem nums_both : ∀ (l : List Int) (acc : List UInt8), (∀ x, x ∈ l → inU64 x) → acc.length + 8 * l.length ≤ 140737488355328 → ∃ r, numsF l acc = some r ∧ Ev (fun k => rnumsF k l acc) r
  | [], acc, _, _ => ⟨_, rfl, Ev.now _⟩
  | v :: l, acc, hl, hb => by
    have hv := hl v (List.mem_cons_self ..)
    have h8 := numL_le8 v
    rw [List.length_cons] at hb
    unfold numsF
    rw [num_f hv]
    simp only [Option.bind_some]
    by_cases he : numE v = 0
    · rw [if_pos he, if_pos (by omega)]
      obtain ⟨r, h1, h2⟩ := nums_both l (acc ++ (strOfNums (numL v)).data.toList) (fun x hx => hl x (List.mem_cons_of_mem _ hx)) (by
        have : (strOfNums (numL v)).data.toList.length = (strOfNums (numL v)).size := by rw [Array.length_toList]; rfl
        rw [List.length_append]
        omega)
      refine ⟨r, h1, ?_⟩
      refine Ev.congr (f := fun k => (ferruleref01_Num.f k v).bind fun b => if b.2 = 0 then (if acc.length + b.1.size ≤ 140737488355328 then rnumsF k l (acc ++ b.1.data.toList) else none) else some ((⟨#[]⟩ : ByteArray), b.2)) (fun k => by rw [rnumsF]) ?_
      refine Ev.bind (refnum_ev hv) ?_
      refine Ev.congr (fun k => ?_) h2
      rw [if_pos he, if_pos (by dsimp only; omega)]
    · rw [if_neg he]
      refine ⟨_, rfl, ?_⟩
      refine Ev.congr (f := fun k => (ferruleref01_Num.f k v).bind fun b => if b.2 = 0 then (if acc.length + b.1.size ≤ 140737488355328 then rnumsF k l (acc ++ b.1.data.toList) else none) else some ((⟨#[]⟩ : ByteArray), b.2)) (fun k => by rw [rnumsF]) ?_
      refine Ev.bind (refnum_ev hv) ?_
      exact Ev.congr (f := fun _ => some ((⟨#[]⟩ : ByteArray), numE v)) (fun k => by rw [if_neg he]) (Ev.now _)
theorem lists_both (l : List Int) (hl : ∀ x, x ∈ l → inU64 x) (hlen : l.length ≤ 1048576) : ∃ r, pack_Nums.f l = some r ∧ Ev (fun k => ref_Nums.f k l) r := by
  have hv : inU64 (l.length : Int) := ⟨by omega, by omega⟩
  have h8 := numL_le8 (l.length : Int)
  have he : numE (l.length : Int) = 0 := by unfold numE; exact if_pos (by omega)
  have hn := num_f hv
  have hr := refnum_ev hv
  rw [he] at hn hr
  generalize strOfNums (numL (l.length : Int)) = s0 at h8 hn hr
  have hd : s0.data.toList.length = s0.size := by rw [Array.length_toList]; rfl
  obtain ⟨r, h1, h2⟩ := nums_both l s0.data.toList hl (by omega)
  refine ⟨r, ?_, ?_⟩
  · have e : numsF ((l.length : Int) :: l) [] = (pack_Num.f (l.length : Int)).bind fun b => if b.2 = 0 then (if ([] : List UInt8).length + b.1.size ≤ 140737488355328 then numsF l ([] ++ b.1.data.toList) else none) else some ((⟨#[]⟩ : ByteArray), b.2) := by rw [numsF]
    unfold pack_Nums.f
    rw [if_pos hlen, e, hn]
    simp only [Option.bind_some, List.length_nil, List.nil_append, Nat.zero_add, if_true]
    rw [if_pos (by omega)]
    exact h1
  · unfold ref_Nums.f
    simp only [if_pos hlen]
    refine Ev.bind hr ?_
    refine Ev.congr (fun k => ?_) h2
    exact if_pos (by dsimp only; omega)
/-- What is taken, by both. -/
theorem take_all (a : ByteArray) : ∃ r, Ev (fun k => pack_TakeNum.f k a) r ∧ Ev (fun k => ferruleref01_TakeNum.f k a) r ∧ inU64 r.1 ∧ (r.2.2 = 0 → r.2.1.size < a.size) := by
  obtain ⟨r, h1, h2⟩ := take_both a
  refine ⟨r, Ev.of (fun k => pack_TakeNum.mono a k) h1, Ev.of (fun k => ferruleref01_TakeNum.mono a k) h2, ?_⟩
  rcases take_full a with ⟨e, he, h⟩ | ⟨n, v, hn1, hn8, hna, h, hv, _⟩
  · rw [h] at h1
    obtain rfl := Option.some.inj h1
    exact ⟨⟨Int.le_refl 0, show (0 : Int) ≤ 18446744073709551615 by decide⟩, fun h => absurd h he⟩
  · rw [h] at h1
    obtain rfl := Option.some.inj h1
    refine ⟨hv, fun _ => ?_⟩
    show (a.extract n a.size).size < a.size
    rw [ByteArray.size_extract]
    omega
theorem several_both (N : Int) (hN : N < 18446744073709551616) : ∀ (m : Nat) (s : ByteArray) (out : List Int) (n i : Nat), s.size ≤ m → out.length + s.size ≤ 2097152 → (i : Int) + n = N →
    ∃ r, Ev (fun k => severalF k n s out) r ∧ Ev (fun k => ferruleref01_TakeNums.l0 k N s out (i : Int)) r ∧ r.1.length ≤ 2097152
  | m, s, out, 0, i, hs, hb, hi => by
    refine ⟨(out, s, 0), Ev.congr (f := fun _ => some (out, s, 0)) (fun k => by rw [severalF]) (Ev.now _), ?_, by show out.length ≤ _; omega⟩
    exact Ev.step (f := fun _ => some (out, s, 0)) (fun k => by rw [ferruleref01_TakeNums.l0, if_neg (by omega)]) (Ev.now _)
  | m, s, out, n + 1, i, hs, hb, hi => by
    obtain ⟨r, h1, h2, hu, hsz⟩ := take_all s
    have hwi : IntKind.u64.wrap ((i : Int) + 1) = ((i + 1 : Nat) : Int) := by simp [IntKind.wrap, IntKind.signed, IntKind.bits]; omega
    by_cases he : r.2.2 = 0
    · have hlt := hsz he
      match m, hs with
      | 0, hs => omega
      | m + 1, hs =>
        obtain ⟨q, q1, q2, q3⟩ := several_both N hN m r.2.1 (out ++ [r.1]) n (i + 1) (by omega) (by rw [List.length_append, List.length_singleton]; omega) (by omega)
        refine ⟨q, ?_, ?_, q3⟩
        · refine Ev.congr (f := fun k => (pack_TakeNum.f k s).bind fun b => if b.2.2 = 0 then (if out.length < 17592186044415 then severalF k n b.2.1 (out ++ [b.1]) else none) else some ([], (⟨#[]⟩ : ByteArray), b.2.2)) (fun k => by rw [severalF]) ?_
          refine Ev.bind h1 ?_
          refine Ev.congr (fun k => ?_) q1
          rw [if_pos he, if_pos (by omega)]
        · refine Ev.step (f := fun k => (ferruleref01_TakeNum.f k s).bind fun bt120 => (if bt120.2.2 = 0 then (if out.length < 17592186044416 then (ferruleref01_TakeNums.l0 k N bt120.2.1 (out ++ [bt120.1]) (IntKind.u64.wrap ((i : Int) + 1))) else (none)) else (some (([] : List Int), (⟨#[]⟩ : ByteArray), bt120.2.2)))) (fun k => by rw [ferruleref01_TakeNums.l0, if_pos (by omega)]) ?_
          refine Ev.bind h2 ?_
          refine Ev.congr (fun k => ?_) q2
          rw [if_pos he, if_pos (by omega), hwi]
    · refine ⟨([], (⟨#[]⟩ : ByteArray), r.2.2), ?_, ?_, by show ([] : List Int).length ≤ _; simp⟩
      · refine Ev.congr (f := fun k => (pack_TakeNum.f k s).bind fun b => if b.2.2 = 0 then (if out.length < 17592186044415 then severalF k n b.2.1 (out ++ [b.1]) else none) else some ([], (⟨#[]⟩ : ByteArray), b.2.2)) (fun k => by rw [severalF]) ?_
        refine Ev.bind h1 ?_
        exact Ev.congr (f := fun _ => some ([], (⟨#[]⟩ : ByteArray), r.2.2)) (fun k => by rw [if_neg he]) (Ev.now _)
      · refine Ev.step (f := fun k => (ferruleref01_TakeNum.f k s).bind fun bt120 => (if bt120.2.2 = 0 then (if out.length < 17592186044416 then (ferruleref01_TakeNums.l0 k N bt120.2.1 (out ++ [bt120.1]) (IntKind.u64.wrap ((i : Int) + 1))) else (none)) else (some (([] : List Int), (⟨#[]⟩ : ByteArray), bt120.2.2)))) (fun k => by rw [ferruleref01_TakeNums.l0, if_pos (by omega)]) ?_
        refine Ev.bind h2 ?_
        exact Ev.congr (f := fun _ => some ([], (⟨#[]⟩ : ByteArray), r.2.2)) (fun k => by rw [if_neg he]) (Ev.now _)
theorem takes_both (a : ByteArray) (most : Int) (ha : a.size ≤ 1048576) : ∃ r, Ev (fun k => pack_TakeNums.f k a most) r ∧ Ev (fun k => ferruleref01_TakeNums.f k a most) r ∧ r.1.length ≤ 2097152 := by
  obtain ⟨r, h1, h2, hu, hsz⟩ := take_all a
  have hin : inU r.1 = true := by
    unfold inU
    obtain ⟨h3, h4⟩ := hu
    rw [decide_eq_true h3, decide_eq_true (by omega)]
    rfl
  by_cases he : r.2.2 = 0
  · have hlt := hsz he
    by_cases hm : most < 0
    · refine ⟨([], (⟨#[]⟩ : ByteArray), 4), ?_, ?_, by show ([] : List Int).length ≤ _; simp⟩
      · refine Ev.bind h1 ?_
        exact Ev.congr (f := fun _ => some ([], (⟨#[]⟩ : ByteArray), 4)) (fun k => by rw [if_pos hin, if_pos he, if_pos hm]) (Ev.now _)
      · refine Ev.bind h2 ?_
        refine Ev.congr (f := fun k => ferruleref01_TakeNums.j0 k r.1 r.2.1 true) (fun k => by rw [if_pos he, if_pos hm]) ?_
        exact Ev.step (f := fun _ => some ([], (⟨#[]⟩ : ByteArray), 4)) (fun k => by rw [ferruleref01_TakeNums.j0, if_pos rfl]) (Ev.now _)
    · by_cases hg : r.1 > IntKind.u64.wrap most
      · refine ⟨([], (⟨#[]⟩ : ByteArray), 4), ?_, ?_, by show ([] : List Int).length ≤ _; simp⟩
        · refine Ev.bind h1 ?_
          exact Ev.congr (f := fun _ => some ([], (⟨#[]⟩ : ByteArray), 4)) (fun k => by rw [if_pos hin, if_pos he, if_neg hm, if_pos hg]) (Ev.now _)
        · refine Ev.bind h2 ?_
          refine Ev.congr (f := fun k => ferruleref01_TakeNums.j0 k r.1 r.2.1 true) (fun k => by rw [if_pos he, if_neg hm, decide_eq_true hg]) ?_
          exact Ev.step (f := fun _ => some ([], (⟨#[]⟩ : ByteArray), 4)) (fun k => by rw [ferruleref01_TakeNums.j0, if_pos rfl]) (Ev.now _)
      · obtain ⟨q, q1, q2, q3⟩ := several_both r.1 (by have := hu.2; omega) r.2.1.size r.2.1 [] r.1.toNat 0 (Nat.le_refl _) (by simp; omega) (by have := hu.1; omega)
        refine ⟨q, ?_, ?_, q3⟩
        · refine Ev.bind h1 ?_
          exact Ev.congr (fun k => by rw [if_pos hin, if_pos he, if_neg hm, if_neg hg]) q1
        · refine Ev.bind h2 ?_
          refine Ev.congr (f := fun k => ferruleref01_TakeNums.j0 k r.1 r.2.1 false) (fun k => by rw [if_pos he, if_neg hm, decide_eq_false hg]) ?_
          exact Ev.step (f := fun k => ferruleref01_TakeNums.l0 k r.1 r.2.1 [] 0) (fun k => by rw [ferruleref01_TakeNums.j0, if_neg (by decide)]) q2
  · refine ⟨([], (⟨#[]⟩ : ByteArray), r.2.2), ?_, ?_, by show ([] : List Int).length ≤ _; simp⟩
    · refine Ev.bind h1 ?_
      exact Ev.congr (f := fun _ => some ([], (⟨#[]⟩ : ByteArray), r.2.2)) (fun k => by rw [if_pos hin, if_neg he]) (Ev.now _)
    · refine Ev.bind h2 ?_
      exact Ev.congr (f := fun _ => some ([], (⟨#[]⟩ : ByteArray), r.2.2)) (fun k => by rw [if_neg he]) (Ev.now _)
theorem same_self (l : List Int) (hl : l.length ≤ 2097152) : Ev (fun k => ferruleref01_Same.f k l l) true := by
  have h : ∀ d j : Nat, j + d = l.length → Ev (fun k => ferruleref01_Same.l0 k l l (j : Int)) true := fun d => by
    induction d with
    | zero =>
      intro j hj
      exact Ev.step (f := fun _ => some true) (fun k => by rw [ferruleref01_Same.l0, if_neg (by omega)]) (Ev.now true)
    | succ d ih =>
      intro j hj
      have hw : wrap64 ((j : Int) + 1) = ((j + 1 : Nat) : Int) := by simp [wrap64]; omega
      refine Ev.step (f := fun k => ferruleref01_Same.l0 k l l ((j + 1 : Nat) : Int)) (fun k => ?_) (ih (j + 1) (by omega))
      rw [ferruleref01_Same.l0, if_pos (by omega), if_pos (by omega), if_pos (by omega), if_pos rfl, hw]
  refine Ev.congr (f := fun k => ferruleref01_Same.l0 k l l ((0 : Nat) : Int)) (fun k => ?_) (h l.length 0 (by omega))
  unfold ferruleref01_Same.f
  rw [if_pos rfl]
  rfl
end Go.Proofs.Ytajphdkolpkloaa.Pr
namespace Go.Proofs.Ytajphdkolpkloaa.Pure
open Go.RowKit Go.Proofs.Ytajphdkolpkloaa.Pr Go.Proofs.YtajphdkolpkloaaW.PrintWords Go.Proofs.YtajphdkolpkloaaW.PrintLast Go.Proofs.YtajphdkolpkloaaW.PrintMore
theorem shown_true : ferrulelaw01_shown.f 20 = some true := by decide +kernel
theorem PackLists : ferrulelaw01_PackLists.Pure := by
  intro l s most ⟨_, hlen, hq⟩ hs _
  obtain ⟨r, h1, h2⟩ := lists_both l (fun x hx => inU64_wf (hq x hx)) hlen
  obtain ⟨q, q1, q2, q3⟩ := takes_both s most hs
  refine Ev.rounds ?_
  unfold ferrulelaw01_PackLists.f
  refine Ev.bind (Ev.of (fun k => ferrulelaw01_shown.mono k) shown_true) ?_
  simp only [h1, Option.bind_some]
  refine Ev.bind h2 ?_
  refine Ev.bind q1 ?_
  refine Ev.bind q2 ?_
  refine Ev.bind (same_self _ q3) ?_
  simp only [if_true, beq_self_eq_true]
  exact Ev.now true
end Go.Proofs.Ytajphdkolpkloaa.Pure
