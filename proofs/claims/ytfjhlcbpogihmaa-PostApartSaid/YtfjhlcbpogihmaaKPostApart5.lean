/- Several texts of one depth, laid together. Conditions: none. -/
import Derived.Test.YtfjhlcbpogihmaaGPostApartPostN
import Derived.Test.YtfjhlcbpogihmaaKPostApart3
import Derived.Test.YtfjhlcbpogihmaaKPostApart4
namespace Go.Proofs.Ytfjhlcbpogihmaa.Pr
open Go.RowKit Go.Proofs.YtfjhlcbpogihmaaW.PrintWords Go.Proofs.YtfjhlcbpogihmaaW.PrintLast Go.Proofs.YtfjhlcbpogihmaaW.PrintMore
set_option linter.unusedVariables false
set_option linter.unusedSimpArgs false
theorem nB_inj {v v' : Int} {x y : ByteArray} (h0 : 0 ≤ v) (h1 : v ≤ 4611686018427387903) (h0' : 0 ≤ v') (h1' : v' ≤ 4611686018427387903) (h : nB v ++ x = nB v' ++ y) : v = v' ∧ x = y := by
  have a := take_back (v := v) x h0 (by omega)
  have b := take_back (v := v') y h0' (by omega)
  change pack_TakeNum.f 20 (nB v ++ x) = _ at a
  change pack_TakeNum.f 20 (nB v' ++ y) = _ at b
  rw [h, b] at a
  injection a with a
  injection a with a1 a2
  injection a2 with a2 _
  exact ⟨a1.symm, a2.symm⟩
theorem app_inj {a b x y : ByteArray} (hs : a.size = b.size) (h : a ++ x = b ++ y) : a = b ∧ x = y := by
  have e := congrArg (fun z : ByteArray => z.data.toList) h
  simp only [app_list] at e
  obtain ⟨e1, e2⟩ := List.append_inj e (by rw [dlen, dlen]; exact hs)
  constructor
  · rw [← mk_self a, ← mk_self b, e1]
  · rw [← mk_self x, ← mk_self y, e2]
theorem tB_inj {a b x y : ByteArray} (ha : a.size ≤ 4096) (hb : b.size ≤ 4096) (h : tB a ++ x = tB b ++ y) : a = b ∧ x = y := by
  unfold tB at h
  rw [ba_assoc, ba_assoc] at h
  obtain ⟨h1, h2⟩ := nB_inj (by omega) (by omega) (by omega) (by omega) h
  exact app_inj (by omega) h2
theorem esB_inj : ∀ (l m : List S75) (x y : ByteArray), (∀ e ∈ l, e.f0 ≤ 4611686018427387903 ∧ e.f1.size ≤ 4096) → (∀ e ∈ l, 0 ≤ e.f0) → (∀ e ∈ m, e.f0 ≤ 4611686018427387903 ∧ e.f1.size ≤ 4096) → (∀ e ∈ m, 0 ≤ e.f0) → l.length = m.length → esB l ++ x = esB m ++ y → l = m ∧ x = y
  | [], [], x, y, _, _, _, _, _, h => by
    rw [esB, nil_ba, nil_ba] at h
    exact ⟨rfl, h⟩
  | [], _ :: _, _, _, _, _, _, _, hl, _ => by simp at hl
  | _ :: _, [], _, _, _, _, _, _, hl, _ => by simp at hl
  | e :: r, e' :: r', x, y, h1, h2, h3, h4, hl, h => by
    have a1 := h1 e (List.mem_cons_self ..)
    have a2 := h2 e (List.mem_cons_self ..)
    have a3 := h3 e' (List.mem_cons_self ..)
    have a4 := h4 e' (List.mem_cons_self ..)
    rw [esB, esB, ba_assoc, ba_assoc, ba_assoc, ba_assoc] at h
    obtain ⟨e1, h⟩ := nB_inj a2 a1.1 a4 a3.1 h
    obtain ⟨e2, h⟩ := tB_inj a1.2 a3.2 h
    obtain ⟨e3, e4⟩ := esB_inj r r' x y (fun z hz => h1 z (List.mem_cons_of_mem _ hz)) (fun z hz => h2 z (List.mem_cons_of_mem _ hz)) (fun z hz => h3 z (List.mem_cons_of_mem _ hz)) (fun z hz => h4 z (List.mem_cons_of_mem _ hz)) (by simpa using hl) h
    refine ⟨?_, e4⟩
    rw [e3]
    obtain ⟨u, v⟩ := e
    obtain ⟨u', v'⟩ := e'
    dsimp only at e1 e2
    rw [e1, e2]
theorem sealB_inj {a b : ByteArray} (ha : a.size ≤ 65536) (hb : b.size ≤ 65536) (h : sealB a = sealB b) : a = b := by
  have x := take_sealed a ⟨#[]⟩ ha (by decide)
  have y := take_sealed b ⟨#[]⟩ hb (by decide)
  rw [h, y] at x
  injection x with x
  injection x with x _
  exact x.symm
theorem body_tells {a0 a1 a2 a3 a4 a5 a6 : Int} {a7 : Bool} {a8 : List S75} {a9 : ByteArray} {b0 b1 b2 b3 b4 b5 b6 : Int} {b7 : Bool} {b8 : List S75} {b9 : ByteArray}
    (ha : mayB a0 a1 a2 a3 a4 a5 a6 a7 a8 a9 = true) (hb : mayB b0 b1 b2 b3 b4 b5 b6 b7 b8 b9 = true) (g3 : 0 ≤ a3) (g4 : 0 ≤ a4) (g5 : 0 ≤ a5) (g6 : 0 ≤ a6) (g8 : ∀ e ∈ a8, 0 ≤ e.f0) (k3 : 0 ≤ b3) (k4 : 0 ≤ b4) (k5 : 0 ≤ b5) (k6 : 0 ≤ b6) (k8 : ∀ e ∈ b8, 0 ≤ e.f0)
    (h : bodyA a0 a1 a2 a3 a4 a5 a6 a7 a8 a9 = bodyA b0 b1 b2 b3 b4 b5 b6 b7 b8 b9) : sameM a0 a1 a2 a3 a4 a5 a6 a7 a8 a9 b0 b1 b2 b3 b4 b5 b6 b7 b8 b9 = true := by
  obtain ⟨p0, p1, p2, p3, p4, p5, p6, p7, p8, p9⟩ := may_facts ha
  obtain ⟨q0, q1, q2, q3, q4, q5, q6, q7, q8, q9⟩ := may_facts hb
  unfold bodyA at h
  simp only [nsB, ba_assoc] at h
  obtain ⟨_, h⟩ := nB_inj (by omega) (by omega) (by omega) (by omega) h
  obtain ⟨e0, h⟩ := nB_inj (by omega) (by omega) (by omega) (by omega) h
  obtain ⟨e1, h⟩ := nB_inj (by omega) (by omega) (by omega) (by omega) h
  obtain ⟨e2, h⟩ := nB_inj (by omega) (by omega) (by omega) (by omega) h
  obtain ⟨e3, h⟩ := nB_inj (by omega) (by omega) (by omega) (by omega) h
  obtain ⟨e4, h⟩ := nB_inj (by omega) (by omega) (by omega) (by omega) h
  obtain ⟨e5, h⟩ := nB_inj (by omega) (by omega) (by omega) (by omega) h
  obtain ⟨e6, h⟩ := nB_inj (by omega) (by omega) (by omega) (by omega) h
  rw [nil_ba, nil_ba] at h
  obtain ⟨e7, h⟩ := nB_inj (by split <;> omega) (by split <;> omega) (by split <;> omega) (by split <;> omega) h
  obtain ⟨el, h⟩ := nB_inj (by omega) (by omega) (by omega) (by omega) h
  obtain ⟨e8, h⟩ := esB_inj _ _ _ _ p9 g8 q9 k8 (by omega) h
  obtain ⟨e9, _⟩ := tB_inj (x := ⟨#[]⟩) (y := ⟨#[]⟩) p8 q8 (by rw [ba_nil, ba_nil]; exact h)
  have e7' : a7 = b7 := by
    cases a7 <;> cases b7 <;> first | rfl | exact absurd e7 (by decide)
  subst e0 e1 e2 e3 e4 e5 e6 e7' e8 e9
  exact sameM_self _ _ _ _ _ _ _ _ _ _
theorem sameM_eq {a0 a1 a2 a3 a4 a5 a6 : Int} {a7 : Bool} {a8 : List S75} {a9 : ByteArray} {b0 b1 b2 b3 b4 b5 b6 : Int} {b7 : Bool} {b8 : List S75} {b9 : ByteArray} (h : sameM a0 a1 a2 a3 a4 a5 a6 a7 a8 a9 b0 b1 b2 b3 b4 b5 b6 b7 b8 b9 = true) :
    a0 = b0 ∧ a1 = b1 ∧ a2 = b2 ∧ a3 = b3 ∧ a4 = b4 ∧ a5 = b5 ∧ a6 = b6 ∧ a7 = b7 ∧ a8 = b8 ∧ a9 = b9 := by
  unfold sameM at h
  obtain ⟨e0, e1, e2, e3, e4, e5, e6, e7, e8, e9⟩ := of_decide_eq_true h
  exact ⟨e0, e1, e2, e3, e4, e5, e6, e7, (eqE_iff a8 b8).1 e8, ba_ext e9⟩
end Go.Proofs.Ytfjhlcbpogihmaa.Pr
namespace Go.Proofs.Ytfjhlcbpogihmaa.Pure
open Go.RowKit Go.Proofs.Ytfjhlcbpogihmaa.Pr Go.Proofs.YtfjhlcbpogihmaaW.PrintWords Go.Proofs.YtfjhlcbpogihmaaW.PrintLast Go.Proofs.YtfjhlcbpogihmaaW.PrintMore
theorem PostApart : ferrulelaw17_PostApart.Pure := by
  intro a0 a1 a2 a3 a4 a5 a6 a7 a8 a9 b0 b1 b2 b3 b4 b5 b6 b7 b8 b9 ha hb
  obtain ⟨_, _, _, w3, w4, w5, w6, _, ⟨hl, hl2, hq⟩, _⟩ := ha
  obtain ⟨_, _, _, x3, x4, x5, x6, _, ⟨jl, jl2, jq⟩, _⟩ := hb
  dsimp only at hl hl2 hq w3 w4 w5 w6 x3 x4 x5 x6 jl jl2 jq
  have g3 := (inU64_wf w3).1
  have g4 := (inU64_wf w4).1
  have g5 := (inU64_wf w5).1
  have g6 := (inU64_wf w6).1
  have g8 : ∀ e ∈ a8, 0 ≤ e.f0 := fun e he => (inU64_wf (hq e he).1).1
  have k3 := (inU64_wf x3).1
  have k4 := (inU64_wf x4).1
  have k5 := (inU64_wf x5).1
  have k6 := (inU64_wf x6).1
  have k8 : ∀ e ∈ b8, 0 ≤ e.f0 := fun e he => (inU64_wf (jq e he).1).1
  refine ⟨a8.length + 1, ?_⟩
  unfold ferrulelaw17_PostApart.f
  rw [pshown_true]
  simp only [Option.bind_some]
  by_cases hm : mayB a0 a1 a2 a3 a4 a5 a6 a7 a8 a9 = true
  rotate_left
  · rw [bytes_no1 hm]
    by_cases hn : mayB b0 b1 b2 b3 b4 b5 b6 b7 b8 b9 = true
    · rw [bytes_1 hn k3 k4 k5 k6 k8]
      simp
    · rw [bytes_no1 hn]
      simp
  rw [bytes_1 hm g3 g4 g5 g6 g8]
  by_cases hn : mayB b0 b1 b2 b3 b4 b5 b6 b7 b8 b9 = true
  rotate_left
  · rw [bytes_no1 hn]
    simp
  rw [bytes_1 hn k3 k4 k5 k6 k8]
  simp only [Option.bind_some, if_true]
  rw [same_2 _ _ _ _ _ _ _ _ _ _ _ _ _ _ _ _ _ _ _ _ (by omega) _ (by omega)]
  simp only [Option.bind_some]
  obtain ⟨_, _, _, _, _, _, _, p7, p8, p9⟩ := may_facts hm
  obtain ⟨_, _, _, _, _, _, _, q7, q8, q9⟩ := may_facts hn
  by_cases hs : sameM a0 a1 a2 a3 a4 a5 a6 a7 a8 a9 b0 b1 b2 b3 b4 b5 b6 b7 b8 b9 = true
  · rw [hs]
    obtain ⟨rfl, rfl, rfl, rfl, rfl, rfl, rfl, rfl, rfl, rfl⟩ := sameM_eq hs
    simp
  · rw [Bool.not_eq_true] at hs
    rw [hs]
    have hne : ((sealB (bodyA a0 a1 a2 a3 a4 a5 a6 a7 a8 a9)).toList == (sealB (bodyA b0 b1 b2 b3 b4 b5 b6 b7 b8 b9)).toList) = false := by
      refine beq_eq_false_iff_ne.2 (fun e => ?_)
      have h := sealB_inj (bodyA_le p7 p8 p9) (bodyA_le q7 q8 q9) (ba_ext e)
      have h := body_tells hm hn g3 g4 g5 g6 g8 k3 k4 k5 k6 k8 h
      rw [hs] at h
      cases h
    rw [hne]
    rfl
end Go.Proofs.Ytfjhlcbpogihmaa.Pure
