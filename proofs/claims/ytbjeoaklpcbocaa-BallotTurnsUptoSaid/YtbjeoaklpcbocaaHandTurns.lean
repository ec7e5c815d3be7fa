/- The law BallotTurns: what it computes, and that it does. Conditions: none. -/
import Derived.Test.YtbjeoaklpcbocaaHandCount
import Derived.Test.YtbjeoaklpcbocaaHandSay
import Derived.Test.YtbjeoaklpcbocaaHandShown
namespace Go.Proofs.Ytbjeoaklpcbocaa.Pr
open Go.RowKit Go.Proofs.YtbjeoaklpcbocaaW.PrintWords Go.Proofs.YtbjeoaklpcbocaaW.PrintLast Go.Proofs.YtbjeoaklpcbocaaW.PrintMore
open Go.Proofs.Ytbjeoaklpcbocaa.Hnd
attribute [local go_sem] setCell_drewN_ alloc_drewN_
set_option linter.unusedVariables false
set_option linter.unusedSimpArgs false
def sayV (l : List S46) (v : S46) : List S46 := if 0 ≤ idxN (sameId v.f0) l 0 then l else l ++ [⟨v.f0, v.f1⟩]
theorem sayV_len (l : List S46) (v : S46) : (sayV l v).length ≤ l.length + 1 := by
  unfold sayV
  split
  · omega
  · rw [List.length_append, List.length_singleton]
    omega
theorem sayV_ok (l : List S46) (v : S46) (h : ∀ x ∈ l, okV x) (hv : okV v) : ∀ x ∈ sayV l v, okV x := by
  unfold sayV
  split
  · exact h
  · intro x hx
    rcases List.mem_append.1 hx with hx | hx
    · exact h x hx
    · rw [List.mem_singleton.1 hx]; exact hv
/-- What the votes come to, voice for voice; none: something that stood has turned. -/
def turnsF (vs : List Int) : List S46 → List S46 → Int → Option Int
  | [], _, n => some n
  | v :: r, l, n => if n ≠ 0 ∧ countV vs (sayV l v) ≠ n then none else turnsF vs r (sayV l v) (countV vs (sayV l v))
theorem turnsF_cons (vs : List Int) (v : S46) (r l : List S46) (n : Int) : turnsF vs (v :: r) l n = if n ≠ 0 ∧ countV vs (sayV l v) ≠ n then none else turnsF vs r (sayV l v) (countV vs (sayV l v)) := rfl
def wfI (l : List Int) : Bool := l.all fun x => (Lit.int .u64 x).wf
def wfV (l : List S46) : Bool := l.all fun x => (Lit.int .u64 x.f0).wf
def ferrulelaw07_BallotTurns.f (vs ls : List Int) (l more : List S46) : Option Bool :=
  if (wfI vs && (wfV l && wfV more)) = true ∧ l.length + more.length < 8796093022207 then (turnsF vs more l (countV vs l)).bind fun n => if n = 0 ∨ n = 1 ∨ n = 2 then some true else none else none
set_option maxHeartbeats 2000000 in
set_option maxRecDepth 100000 in
theorem ferrulelaw07_BallotTurns.calls (A0 : Option Addr) (c0 : Nat) (vs : List Int) (A1 : Option Addr) (c1 : Nat) (ls : List Int) (A2 : Option Addr) (c2 : Nat) (l : List S46) (A3 : Option Addr) (c3 : Nat) (more : List S46) (r : Bool) (w : World)
    (hr0 : Kd.C (Kd.int .u64) w A0 vs.length vs) (hc0 : vs.length ≤ c0) (hr1 : Kd.C (Kd.int .u64) w A1 ls.length ls) (hc1 : ls.length ≤ c1) (hr2 : Kd.C k46 w A2 l.length l) (hc2 : l.length ≤ c2) (hr3 : Kd.C k46 w A3 more.length more) (hc3 : more.length ≤ c3)
    (h : ferrulelaw07_BallotTurns.f vs ls l more = some r) :
    Calls Try.prog 7 #[.agg #[.slice A0 vs.length c0, .slice A1 ls.length c1], .slice A2 l.length c2, .slice A3 more.length c3] w fun e w' => e = .returned (.bool r) ∧ Below w.heap.size w w' := by
  unfold ferrulelaw07_BallotTurns.f at h
  by_cases hz : (wfI vs && (wfV l && wfV more)) = true ∧ l.length + more.length < 8796093022207
  rotate_left
  · rw [if_neg hz] at h; cases h
  rw [if_pos hz] at h
  obtain ⟨n9, hT, h⟩ := Option.bind_eq_some_iff.mp h
  by_cases h9 : n9 = 0 ∨ n9 = 1 ∨ n9 = 2
  rotate_left
  · rw [if_neg h9] at h; cases h
  rw [if_pos h9] at h
  obtain rfl := Option.some.inj h
  obtain ⟨hw, hlen⟩ := hz
  simp only [Bool.and_eq_true] at hw
  have HOK0 : Aside0 (∀ x ∈ vs, okU x) := ⟨fun x hx => List.all_eq_true.1 hw.1 x hx⟩
  have HOKL : Aside0 (∀ x ∈ l, okV x) := ⟨fun x hx => List.all_eq_true.1 hw.2.1 x hx⟩
  have HOKM : Aside0 (∀ x ∈ more, okV x) := ⟨fun x hx => List.all_eq_true.1 hw.2.2 x hx⟩
  have HR0 := Aside0.mk hr0
  have HR2 := Aside0.mk hr2
  have HR3 := Aside0.mk hr3
  have HLEN := Aside0.mk hlen
  have HT := Aside0.mk hT
  have H9 := Aside0.mk h9
  clear h hw hr0 hr1 hr2 hr3 hc0 hc1 hc3 hT h9 hlen
  have n0 := blk_new w (.cells #[.slice A0 vs.length c0, .slice A1 ls.length c1] 35)
  go_enter Try.func7, Try.ntmps7
  go_wp2_with (first
    | (go_at_call 8; refine (ferrulelaw07_shown.calls true _ rfl).mono ?_; rintro e w1 ⟨rfl, hb⟩; have HB1 := Aside0.mk (below_call (below_alloc (Below.refl w.heap.size w) _) hb); have HK1 := Aside0.mk (blk_below n0 hb); clear hb n0; have p0 := blk_cell HK1.out 0; have p1 := blk_cell HK1.out 1)
    | (go_at_call 16; refine (ballot_Count.calls_ A0 c0 vs A1 ls.length c1 A2 c2 l _ (Kd.C_below HR0.out HB1.out) (Kd.C_below HR2.out HB1.out) HOK0.out HOKL.out (by have := HLEN.out; omega)).mono ?_; rintro e w2 ⟨rfl, hb⟩; have HB2 := Aside0.mk (below_call HB1.out hb); have HK2 := Aside0.mk (blk_below HK1.out hb); clear hb p0 p1 HB1 HK1))
  go_loopg [1, 8, 9, 10] more.length (fun g v1 v8 v9 v10 wr => ∃ (i : Nat) (lc : List S46) (n : Int) (A : Option Addr) (c : Nat), v9 = .int .i64 (i : Int) ∧ v8 = .int .i64 n ∧ v1 = .slice A lc.length c ∧ Aside0 (i ≤ more.length ∧ more.length - i ≤ g ∧ lc.length ≤ l.length + i ∧ lc.length ≤ c) ∧ Aside0 (turnsF vs (more.drop i) lc n = some n9) ∧ Aside0 (Kd.C k46 wr A lc.length lc) ∧ Aside0 (∀ x ∈ lc, okV x) ∧ Aside0 (wr.heap[w.heap.size]? = some (.cells #[.slice A0 vs.length c0, .slice A1 ls.length c1] 35 (0, 0))) ∧ Aside0 (Below w.heap.size w wr))
  case atStart => exact ⟨0, l, _, A2, c2, rfl, rfl, rfl, ⟨by omega⟩, ⟨by rw [List.drop_zero]; exact HT.out⟩, ⟨Kd.C_below HR2.out HB2.out⟩, HOKL, HK2, HB2⟩
  case round =>
    clear HB2 HK2 HT
    obtain ⟨i, lc, n, A, c, rfl, rfl, rfl, HI, HT, HC, HOKC, HK, HB⟩ := hrel
    by_cases hlt : (i : Int) < more.length
    · have hltb := decide_eq_true hlt
      have hil : i < more.length := by omega
      obtain ⟨ad, had, f0, f1⟩ := at_T46 HR3.out (i : Int) (by omega) hlt
      cases had
      simp only [Int.toNat_natCast] at f0 f1
      replace f0 := (HB.out.cell (World.block_lt_of_cell? w _ f0)).trans f0
      replace f1 := (HB.out.cell (World.block_lt_of_cell? w _ f1)).trans f1
      have hT := HT.out
      rw [List.drop_eq_getElem_cons hil, ← rdV_at more i hil, turnsF_cons] at hT
      obtain ⟨x, hx⟩ : ∃ x, rd_T46 more (i : Int) = x := ⟨_, rfl⟩
      have HOKX := Aside0.mk (show okU x.f0 from HOKM.out x (by rw [← hx, rdV_at more i hil]; exact List.getElem_mem _))
      rw [hx] at f0 f1 hT
      clear hx HT
      obtain ⟨x0, x1⟩ := x
      dsimp only at f0 f1 HOKX
      by_cases hc : n ≠ 0 ∧ countV vs (sayV lc ⟨x0, x1⟩) ≠ n
      · rw [if_pos hc] at hT; cases hT
      rw [if_neg hc] at hT
      have HT2 := Aside0.mk hT
      clear hT
      by_cases hn : n = 0
      · have hnb : (n != 0) = false := bne_eq_false_iff_eq.mpr hn
        clear hc hn
        go_wp2_with (first | (go_at_call 14; refine (ballot_Say.calls A c lc x0 x1 (sayV lc ⟨x0, x1⟩) _ HC.out (by have := HI.out; omega) (by unfold ballot_Say.f sayV; rw [if_pos (by have := HI.out; have := HLEN.out; omega)])).mono ?_; rintro e wa ⟨v1_, rfl, ho, hb⟩; obtain ⟨A', c', rfl, hc', hC'⟩ := Kd.R_reads ho; have HC1 := Aside0.mk hC'; have HCC := Aside0.mk hc'; have HBa := Aside0.mk (below_call HB.out hb); have HKa := Aside0.mk (blk_below HK.out hb); clear ho hb hC' hc' f0 f1; have p0 := blk_cell HKa.out 0; have p1 := blk_cell HKa.out 1) | (go_at_call 16; refine (ballot_Count.calls_ A0 c0 vs A1 ls.length c1 A' c' (sayV lc ⟨x0, x1⟩) _ (Kd.C_below HR0.out HBa.out) HC1.out HOK0.out (sayV_ok lc ⟨x0, x1⟩ HOKC.out HOKX.out) (by have := HI.out; have := HLEN.out; have := sayV_len lc ⟨x0, x1⟩; omega)).mono ?_; rintro e wb ⟨rfl, hb⟩; have HBb := Aside0.mk (below_call HBa.out hb); have HKb := Aside0.mk (blk_below HKa.out hb); have HCb := Aside0.mk (Kd.C_below HC1.out hb); clear hb p0 p1))
        go_roundg (gk - 1)
        case measure => have := HI.out; omega
        case rel => exact ⟨i + 1, sayV lc ⟨x0, x1⟩, countV vs (sayV lc ⟨x0, x1⟩), A', c', by rw [show wrap64 ((i : Int) + 1) = ((i + 1 : Nat) : Int) from by have := HLEN.out; simp [wrap64]; omega], rfl, rfl, ⟨by have h1_ := HI.out; have h2_ := sayV_len lc ⟨x0, x1⟩; have h3_ := HCC.out; omega⟩, HT2, HCb, ⟨sayV_ok lc ⟨x0, x1⟩ HOKC.out HOKX.out⟩, HKb, HBb⟩
      · have hnb : (n != 0) = true := bne_iff_ne.mpr hn
        have hm : countV vs (sayV lc ⟨x0, x1⟩) = n := Decidable.byContradiction fun h => hc ⟨hn, h⟩
        have hmb : (countV vs (sayV lc ⟨x0, x1⟩) != n) = false := bne_eq_false_iff_eq.mpr hm
        clear hc hn hm
        go_wp2_with (first | (go_at_call 14; refine (ballot_Say.calls A c lc x0 x1 (sayV lc ⟨x0, x1⟩) _ HC.out (by have := HI.out; omega) (by unfold ballot_Say.f sayV; rw [if_pos (by have := HI.out; have := HLEN.out; omega)])).mono ?_; rintro e wa ⟨v1_, rfl, ho, hb⟩; obtain ⟨A', c', rfl, hc', hC'⟩ := Kd.R_reads ho; have HC1 := Aside0.mk hC'; have HCC := Aside0.mk hc'; have HBa := Aside0.mk (below_call HB.out hb); have HKa := Aside0.mk (blk_below HK.out hb); clear ho hb hC' hc' f0 f1; have p0 := blk_cell HKa.out 0; have p1 := blk_cell HKa.out 1) | (go_at_call 16; refine (ballot_Count.calls_ A0 c0 vs A1 ls.length c1 A' c' (sayV lc ⟨x0, x1⟩) _ (Kd.C_below HR0.out HBa.out) HC1.out HOK0.out (sayV_ok lc ⟨x0, x1⟩ HOKC.out HOKX.out) (by have := HI.out; have := HLEN.out; have := sayV_len lc ⟨x0, x1⟩; omega)).mono ?_; rintro e wb ⟨rfl, hb⟩; have HBb := Aside0.mk (below_call HBa.out hb); have HKb := Aside0.mk (blk_below HKa.out hb); have HCb := Aside0.mk (Kd.C_below HC1.out hb); clear hb p0 p1))
        go_roundg (gk - 1)
        case measure => have := HI.out; omega
        case rel => exact ⟨i + 1, sayV lc ⟨x0, x1⟩, countV vs (sayV lc ⟨x0, x1⟩), A', c', by rw [show wrap64 ((i : Int) + 1) = ((i + 1 : Nat) : Int) from by have := HLEN.out; simp [wrap64]; omega], rfl, rfl, ⟨by have h1_ := HI.out; have h2_ := sayV_len lc ⟨x0, x1⟩; have h3_ := HCC.out; omega⟩, HT2, HCb, ⟨sayV_ok lc ⟨x0, x1⟩ HOKC.out HOKX.out⟩, HKb, HBb⟩
    · have hltb := decide_eq_false hlt
      have hie : i = more.length := by have := HI.out; omega
      have hT := HT.out
      rw [hie, List.drop_length] at hT
      unfold turnsF at hT
      obtain rfl := Option.some.inj hT
      clear hT HT
      rcases H9.out with rfl | rfl | rfl
      · go_wp2_with fail
        go_ret
        exact ⟨rfl, HB.out⟩
      · go_wp2_with fail
        go_ret
        exact ⟨rfl, HB.out⟩
      · go_wp2_with fail
        go_ret
        exact ⟨rfl, HB.out⟩
end Go.Proofs.Ytbjeoaklpcbocaa.Pr
